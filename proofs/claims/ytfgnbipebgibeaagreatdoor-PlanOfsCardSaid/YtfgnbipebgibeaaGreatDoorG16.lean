/- Plans: the whole: always an answer, and what one that is made has. A text of plain signs. The document's values are the program's. The document's comparisons and sums are the program's. The document's names are the program's. The document's expressions that may be are the program's. The document's expressions that may be are the program's: nodes. The document's types and values of expressions are the program's. The document's values of expressions are the program's. -/
import Derived.Test.YtfgnbipebgibeaaGreatDoorG15
import Derived.Shelf.GgClosure.StringsIndexFunc
import Derived.Lib.DecodeN
import Derived.Test.YtfgnbipebgibeaaGreatDoorG14
namespace Cad
open Go Go.Proofs
open Int (toNat)
open List (getD)
open List (length)
set_option maxHeartbeats 4000000

abbrev Yu (x0:Sem zj.sl) (x1:Sem zk):zo aX:=(x0,x1,([],[],0,[],[],ze.mk [] (0,0,[]) [] []),([],[],0,[],[],ze.mk [] (0,0,[]) [] []),x1.1,x1.2.2.1,x1.2.2.2.2.2.2.2.2.2.2.2.2,x1.2.1,0,x1.2.2.2.2.2.2.2.2.1,0,())

theorem IK (x0:Sem zj.sl) (x1:Sem zk):Xx x0 x1=(let a8:=lF (Yu x0 x1)
  let a11:=CX a8.2
  let a14:=CY a8.2
  let a17:=uG a8.2
  GM x0 x1 x1.2.2.2.2.2.2.2.2.1 x1 (!dK x1) (mS x1&&bif !dK x1 then true else mo x0) (bif !dK x1 then true else jP x0 != 0) (kw 16 x1.2.2.2.2.2.2.2.2.1) (Yu x0 x1) (lG (Yu x0 x1)) a8 (a8.1==0) a8.2 a11 a11.2 (eM a11.2) a14 a14.2 (eM a14.2) a17 a17.2 (eM a17.2)):=by
 unfold Xx
 simp only [Ma,Kh,zn]

abbrev PO (z:zo af):Sem aB:=(z.2.2.2.2.1,z.2.2.2.2.2.1,z.2.2.2.2.2.2.1,(z.2.2.2.2.2.2.2.1,z.2.2.2.2.2.2.2.2.1,z.2.2.2.2.2.2.2.2.2.1,[],[],z.2.2.2.2.2.2.2.2.2.2.1),z.2.2.2.2.2.2.2.2.2.2.2.1,z.2.2.2.2.2.2.2.2.2.2.2.2.1)
abbrev jl:Sem aB:=([],[],[],([],[],0,[],[],ze.mk [] (0,0,[]) [] []),[],0)

noncomputable def aC (db:List (Sem zj)) (n:zw):Sem zl:=(getD db (toNat (zZ db n)) (zi zj)).1
abbrev zgv:Sem zl:=([],[],0,[],[],ze.mk [] (0,0,[]) [] [])
noncomputable def kq (db:List (Sem zj)) (n:zw):Sem zl:=if n=[] then zgv else aC db n
noncomputable def jo (e:Int) (p:Sem aB):Int×Sem aB:=if e=0 then (if mV p.2.2.2.1=0 then (0,p) else (mV p.2.2.2.1,jl)) else (e,jl)
noncomputable def DD (db:List (Sem zj)) (s:Sem zk):Int×Sem aB:=
 if (s.1==[99,111,112,121])=true then
  jo (Bw (aC db s.2.2.1) s.2.2.2.1) (s.1,s.2.2.1,s.2.2.2.2.2.2.2.2.2.2.2.2,(s.2.1,eZ (aC db s.2.2.1) s.2.2.2.1,gw (ky (aC db s.2.2.1) s.2.2.2.1) (aC db s.2.2.1).2.2.1,[],[],s.2.2.2.2.2.2.2.2.1),ky (aC db s.2.2.1) s.2.2.2.1,0)
 else if (s.1==[106,111,105,110])=true then
  jo (j4 (aC db s.2.2.1) (kq db s.2.2.2.2.2.2.2.2.2.2.2.2) s.2.2.2.2.2.1 s.2.2.2.2.2.2.2.2.2.2.2.2)
   (s.1,s.2.2.1,s.2.2.2.2.2.2.2.2.2.2.2.2,(s.2.1,(aC db s.2.2.1).2.1++gC (kq db s.2.2.2.2.2.2.2.2.2.2.2.2) (length (kq db s.2.2.2.2.2.2.2.2.2.2.2.2).2.1),(aC db s.2.2.1).2.2.1,[],[],s.2.2.2.2.2.2.2.2.1),
    j6 (kq db s.2.2.2.2.2.2.2.2.2.2.2.2).2.2.1 (length (kq db s.2.2.2.2.2.2.2.2.2.2.2.2).2.1),ae (aC db s.2.2.1) s.2.2.2.2.2.1)
 else if (s.1==[103,114,111,117,112])=true then
  jo (BE (aC db s.2.2.1) s.2.2.2.1) (s.1,s.2.2.1,s.2.2.2.2.2.2.2.2.2.2.2.2,(s.2.1,Ea (aC db s.2.2.1) s.2.2.2.1,0,[],[],s.2.2.2.2.2.2.2.2.1),ky (aC db s.2.2.1) s.2.2.2.1,0)
 else (1,jl)
noncomputable def cB (db:List (Sem zj)) (s:Sem zk):Int×Sem aB:=
 if kK s.1∧dK s=true∧jP db=(0:Int) then (if nt db s.2.2.1 s.2.2.2.2.2.2.2.2.2.2.2.2 s.2.1=0 then DD db s else (nt db s.2.2.1 s.2.2.2.2.2.2.2.2.2.2.2.2 s.2.1,jl)) else (1,jl)

theorem wb {s:Sem zk} (h:dK s=true):gq s=true:=by
 unfold dK oz at h
 by_cases hp:gq s=true
 ·exact hp
 ·exfalso
  simp only [ji] at hp
  simp [hp] at h

theorem sj {db:List (Sem zj)} {s:zw} (h:(0:Int)≤zZ db s):db.getD (toNat (zZ db s)) (zi zj)∈db:=by
 have:=du h
 simp only [zR,aV,aN] at this
 exact lA _ _ (by omega)

theorem AK (e:Int):az [] [aB,zf] (AV.tup [AV.agg [AV.str [],AV.str [],AV.str [],AV.str [],AV.nils,AV.int .i64 0,AV.nils,AV.nils,AV.str [],AV.int .i64 0,AV.int .i64 0,AV.str [],AV.str [],AV.nils,AV.nils,AV.int .i64 0],AV.int .i64 e])=some (jl,e,()):=rfl

theorem Yo (z:zo af):az [AO.vec zh z.2.2.2.2.2.2.2.2.1] [aB,zf] (AV.tup [AV.agg [AV.str z.2.2.2.2.1,AV.str z.2.2.2.2.2.1,AV.str z.2.2.2.2.2.2.1,AV.str z.2.2.2.2.2.2.2.1,AV.vec 0,
  AV.int .i64 z.2.2.2.2.2.2.2.2.2.1,AV.nils,AV.nils,AV.str (ze.op z.2.2.2.2.2.2.2.2.2.2.1),AV.int .i64 (ze.v z.2.2.2.2.2.2.2.2.2.2.1).1,AV.int .i64 (ze.v z.2.2.2.2.2.2.2.2.2.2.1).2.1,AV.str (ze.v z.2.2.2.2.2.2.2.2.2.2.1).2.2,AV.str (ze.s z.2.2.2.2.2.2.2.2.2.2.1),AV.sl Sh.expr (ze.l z.2.2.2.2.2.2.2.2.2.2.1),
  AV.sl zf z.2.2.2.2.2.2.2.2.2.2.2.1,AV.int .i64 z.2.2.2.2.2.2.2.2.2.2.2.2.1],AV.int .i64 0])=some (PO z,0,()):=by
 obtain ⟨z0,z1,z2,z3,z4,z5,z6,z7,z8,z9,z10,z11,z12,z13⟩:=z
 cases z10
 rfl

def PlS (x0:Sem zj.sl) (x1:Sem zk):Prop:=Ep x0 x1=some ((cB x0 x1).2,(cB x0 x1).1,())

theorem uM {x0:Sem zj.sl} {x1:Sem zk} {o:Option (zC (List.map some [aB,zf]))} {e:Int} (h:o=some (jl,e,())) (hp:cB x0 x1=(e,jl)):o=some ((cB x0 x1).2,(cB x0 x1).1,()):=by rw [hp]; exact h

theorem SJ {x0:Sem zj.sl} {x1:Sem zk} (hM:mS x1=true) (hB:mo x0=true) (hmay:(bif !dK x1 then true else jP x0 != 0)=true):PlS x0 x1:=by
 have h3:(mS x1&&bif !dK x1 then true else mo x0)=true:=by rw [hM,hB]; cases dK x1 <;> rfl
 have hp:cB x0 x1=(1,jl):=by
  unfold cB
  rw [if_neg]
  rintro ⟨_,h1,h2⟩
  rw [h1] at hmay
  simp [h2] at hmay
 refine uM ?_ hp
 unfold Ep aA cL
 rw [IK]
 simp only [GM,Tr.val,h3,hmay,if_true]
 by_cases o1:(x1.1==[99,111,112,121])=true
 ·simp only [o1,if_true]; rfl
 ·by_cases o2:(x1.1==[106,111,105,110])=true
  ·simp only [o1,o2,if_true]; rfl
  ·by_cases o3:(x1.1==[103,114,111,117,112])=true
   ·simp only [o1,o2,o3,if_true]; rfl
   ·simp only [o1,o2,o3]; rfl

theorem Yj {x0:Sem zj.sl} {x1:Sem zk} {y:zo aX} {z:zo af} {cols:List (Sem zh)} {key:Int} {ix:List Int} {on:Int} (k3:y.2.2.2.2=(Yu x0 x1).2.2.2.2) (hk:me y z)
  (hch:z.2.2.2.2.2.2.2.2.2.2.1=y.2.2.2.2.2.2.2.2.2.1) (hA:BQ z cols key ix on):PO z=(x1.1,x1.2.2.1,x1.2.2.2.2.2.2.2.2.2.2.2.2,(x1.2.1,cols,key,[],[],x1.2.2.2.2.2.2.2.2.1),ix,on):=by
 obtain ⟨_,_,_,_,a4,a5,a6,a7⟩:=hk
 have e4:z.2.2.2.2.1=x1.1:=by rw [a4,k3]
 have e5:z.2.2.2.2.2.1=x1.2.2.1:=by rw [a5,k3]
 have e6:z.2.2.2.2.2.2.1=x1.2.2.2.2.2.2.2.2.2.2.2.2:=by rw [a6,k3]
 have e7:z.2.2.2.2.2.2.2.1=x1.2.1:=by rw [a7,k3]
 have e8:z.2.2.2.2.2.2.2.2.2.2.1=x1.2.2.2.2.2.2.2.2.1:=by rw [hch,k3]
 show (z.2.2.2.2.1,z.2.2.2.2.2.1,z.2.2.2.2.2.2.1,(z.2.2.2.2.2.2.2.1,z.2.2.2.2.2.2.2.2.1,z.2.2.2.2.2.2.2.2.2.1,[],[],z.2.2.2.2.2.2.2.2.2.2.1),z.2.2.2.2.2.2.2.2.2.2.2.1,z.2.2.2.2.2.2.2.2.2.2.2.2.1)=_
 rw [e4,e5,e6,e7,e8,hA.cols,hA.key,hA.ix,hA.on]

theorem PM {x0:Sem zj.sl} {x1:Sem zk} (hdb:∀ x∈x0,mg x) (hl:length x0≤13) (hs:Na x1):PlS x0 x1:=by
 by_cases hg:kK x1.1
 rotate_left
 ·have o1:(x1.1==[99,111,112,121])=false:=by simpa using fun k=>hg (.inl k)
  have o2:(x1.1==[106,111,105,110])=false:=by simpa using fun k=>hg (.inr (.inl k))
  have o3:(x1.1==[103,114,111,117,112])=false:=by simpa using fun k=>hg (.inr (.inr k))
  refine uM (e:=1) ?_ (by unfold cB; rw [if_neg fun h=>hg h.1])
  unfold Ep aA cL
  rw [IK]
  simp only [GM,Tr.val,o1,o2,o3]
  rfl
 have hM:=HU hs.sh hg
 have hB:=DI hdb
 by_cases hmay:(bif !dK x1 then true else jP x0 != 0)=true
 ·exact SJ hM hB hmay
 have h3:(mS x1&&bif !dK x1 then true else mo x0)=true:=by rw [hM,hB]; cases dK x1 <;> rfl
 have hm1:dK x1=true:=by
  cases h:dK x1
  ·rw [h] at hmay; simp at hmay
  ·rfl
 have hb1:jP x0=(0:Int):=by
  rw [hm1] at hmay; simpa using hmay
 have hparts:=wb hm1
 have hrels:=((oT hdb).1 hb1).rels
 obtain ⟨e8,y8,h8,k1,k2,k3,k5,k4⟩:=G5 (Yu x0 x1) (by show length x0≤_; omega)
 have s8:lF (Yu x0 x1)=(e8,y8):=by unfold lF; rw [h8]; rfl
 have c8:lG (Yu x0 x1)=true:=by unfold lG; rw [h8]; rfl
 have k5:e8=nt x0 x1.2.2.1 x1.2.2.2.2.2.2.2.2.2.2.2.2 x1.2.1:=k5
 have hS:kK x1.1→cB x0 x1=if e8=0 then DD x0 x1 else (e8,jl):=by
  intro h
  unfold cB
  rw [if_pos ⟨h,hm1,hb1⟩,k5]
 unfold PlS Ep aA cL
 rw [IK]
 simp only [GM,Tr.val,h3,hmay,hs.cp,s8,c8,if_true]
 by_cases e80:e8=0
 ·have hsrc:=k4 e80
  have n2:y8.2.1=x1:=k2
  have n1:y8.1=x0:=k1
  have nk:y8.2.2.2.2.2.2.2.2.1=(0:Int):=by rw [k3]
  have non:y8.2.2.2.2.2.2.2.2.2.2.1=(0:Int):=by rw [k3]
  have nw:y8.2.2.2.2.2.2.1=x1.2.2.2.2.2.2.2.2.2.2.2.2:=by rw [k3]
  have hfrom:y8.2.2.1=aC x0 x1.2.2.1:=hsrc.2.2.2.2.1
  have hwith:y8.2.2.2.1=kq x0 x1.2.2.2.2.2.2.2.2.2.2.2.2:=hsrc.2.2.2.2.2
  have mayf:=jG (hrels _ (sj (db:=x0) (s:=x1.2.2.1) hsrc.1)).may
  rw [show (getD x0 (toNat (zZ x0 x1.2.2.1)) (zi zj)).1=y8.2.2.1 from hfrom.symm] at mayf
  have hwl:length y8.2.2.2.1.2.1≤100:=by
   rw [hwith]
   unfold kq
   split
   ·simp
   ·rename_i hw
    have:=(jG (hrels _ (sj (db:=x0) (s:=x1.2.2.2.2.2.2.2.2.2.2.2.2) (hsrc.2.1.resolve_left hw))).may).2.2.2.1
    unfold aC
    omega
  have e8b:(e8==0)=true:=by simpa using e80
  simp only [e8b,if_true]
  by_cases o1:(x1.1==[99,111,112,121])=true
  ·have hmg:kK x1.1:=Or.inl (bB o1)
   obtain ⟨z,h11,hk,hch,hlen,hA⟩:=Pc y8 (by rw [n2]; have:=hs.sh.names.1; omega)
   rw [n2,hfrom,non] at hA
   rw [n2,hfrom] at h11
   generalize hce:Bw (aC x0 x1.2.2.1) x1.2.2.2.1=e11 at h11 hA
   have s11:CX y8=(e11,z):=by unfold CX; rw [h11]; rfl
   have c11:Ek y8=true:=by unfold Ek; rw [h11]; rfl
   have hP:=hS hmg
   rw [if_pos e80] at hP
   unfold DD at hP
   rw [if_pos o1,hce] at hP
   simp only [o1,s11,c11,if_true]
   by_cases e0:e11=0
   ·have hz:=Yj k3 hk hch (hA e0)
    have h13:=ry z hlen
    have hT:Lk z=(PO z).2.2.2.1:=rfl
    rw [hT,hz] at h13
    unfold jo at hP
    rw [if_pos e0] at hP
    generalize he13:mV _=e13 at h13 hP
    have s13:eM z=(e13,z):=by unfold eM; rw [h13]; rfl
    have c13:fT z=true:=by unfold fT; rw [h13]; rfl
    have e0b:(e11==0)=true:=by simpa using e0
    simp only [e0b,s13,c13,if_true]
    by_cases f0:e13=0
    ·have f0c:(e13 != 0)=false:=by simp [f0]
     simp only [f0c]
     rw [if_pos f0] at hP
     rw [hP]
     exact (Yo z).trans (by rw [hz])
    ·have f0c:(e13 != 0)=true:=by simpa using f0
     simp only [f0c,if_true]
     rw [if_neg f0] at hP
     exact uM (AK e13) hP
   ·have e0b:(e11==0)=false:=by simpa using e0
    have e0c:(e11 != 0)=true:=by simpa using e0
    unfold jo at hP
    rw [if_neg e0] at hP
    simp only [e0b,e0c,if_true]
    exact uM (AK e11) hP
  ·by_cases o2:(x1.1==[106,111,105,110])=true
   ·have hmg:kK x1.1:=Or.inr (Or.inl (bB o2))
    obtain ⟨z,h11,hk,hch,hlen,hA⟩:=Pd y8 (by have:=mayf.2.2.2.1; omega) hwl
    rw [n2,nw,hfrom,hwith] at hA
    rw [n2,nw,hfrom,hwith] at h11
    generalize hce:j4 (aC x0 x1.2.2.1) (kq x0 x1.2.2.2.2.2.2.2.2.2.2.2.2) x1.2.2.2.2.2.1 x1.2.2.2.2.2.2.2.2.2.2.2.2=e11 at h11 hA
    have s11:CY y8=(e11,z):=by unfold CY; rw [h11]; rfl
    have c11:Em y8=true:=by unfold Em; rw [h11]; rfl
    have hP:=hS hmg
    rw [if_pos e80] at hP
    unfold DD at hP
    rw [if_neg o1,if_pos o2,hce] at hP
    simp only [o1,o2,s11,c11,if_true]
    by_cases e0:e11=0
    ·have hz:=Yj k3 hk hch (hA e0)
     have h13:=ry z hlen
     have hT:Lk z=(PO z).2.2.2.1:=rfl
     rw [hT,hz] at h13
     unfold jo at hP
     rw [if_pos e0] at hP
     generalize he13:mV _=e13 at h13 hP
     have s13:eM z=(e13,z):=by unfold eM; rw [h13]; rfl
     have c13:fT z=true:=by unfold fT; rw [h13]; rfl
     have e0b:(e11==0)=true:=by simpa using e0
     simp only [e0b,s13,c13,if_true]
     by_cases f0:e13=0
     ·have f0c:(e13 != 0)=false:=by simp [f0]
      simp only [f0c]
      rw [if_pos f0] at hP
      rw [hP]
      exact (Yo z).trans (by rw [hz])
     ·have f0c:(e13 != 0)=true:=by simpa using f0
      simp only [f0c,if_true]
      rw [if_neg f0] at hP
      exact uM (AK e13) hP
    ·have e0b:(e11==0)=false:=by simpa using e0
     have e0c:(e11 != 0)=true:=by simpa using e0
     unfold jo at hP
     rw [if_neg e0] at hP
     simp only [e0b,e0c,if_true]
     exact uM (AK e11) hP
   ·by_cases o3:(x1.1==[103,114,111,117,112])=true
    ·have hmg:kK x1.1:=Or.inr (Or.inr (bB o3))
     obtain ⟨z,h11,hk,hch,hlen,hA⟩:=Mj y8 (by rw [n2]; exact vJ hparts (bB o3))
     rw [n2,hfrom,non,nk] at hA
     rw [n2,hfrom] at h11
     generalize hce:BE (aC x0 x1.2.2.1) x1.2.2.2.1=e11 at h11 hA
     have s11:uG y8=(e11,z):=by unfold uG; rw [h11]; rfl
     have c11:wD y8=true:=by unfold wD; rw [h11]; rfl
     have hP:=hS hmg
     rw [if_pos e80] at hP
     unfold DD at hP
     rw [if_neg o1,if_neg o2,if_pos o3,hce] at hP
     simp only [o1,o2,o3,s11,c11,if_true]
     by_cases e0:e11=0
     ·have hz:=Yj k3 hk hch (hA e0)
      have h13:=ry z hlen
      have hT:Lk z=(PO z).2.2.2.1:=rfl
      rw [hT,hz] at h13
      unfold jo at hP
      rw [if_pos e0] at hP
      generalize he13:mV _=e13 at h13 hP
      have s13:eM z=(e13,z):=by unfold eM; rw [h13]; rfl
      have c13:fT z=true:=by unfold fT; rw [h13]; rfl
      have e0b:(e11==0)=true:=by simpa using e0
      simp only [e0b,s13,c13,if_true]
      by_cases f0:e13=0
      ·have f0c:(e13 != 0)=false:=by simp [f0]
       simp only [f0c]
       rw [if_pos f0] at hP
       rw [hP]
       exact (Yo z).trans (by rw [hz])
      ·have f0c:(e13 != 0)=true:=by simpa using f0
       simp only [f0c,if_true]
       rw [if_neg f0] at hP
       exact uM (AK e13) hP
     ·have e0b:(e11==0)=false:=by simpa using e0
      have e0c:(e11 != 0)=true:=by simpa using e0
      unfold jo at hP
      rw [if_neg e0] at hP
      simp only [e0b,e0c,if_true]
      exact uM (AK e11) hP
    ·simp only [o1,o2,o3]
     refine uM (AK 1) ?_
     unfold cB
     rw [if_neg]
     rintro ⟨h | h | h,_⟩
     ·exact o1 (bb.2 h)
     ·exact o2 (bb.2 h)
     ·exact o3 (bb.2 h)
 ·have e8b:(e8==0)=false:=by simpa using e80
  have e8c:(e8 != 0)=true:=by simpa using e80
  have hP:kK x1.1→cB x0 x1=(e8,jl):=fun h=>by rw [hS h,if_neg e80]
  simp only [e8b,e8c,if_true]
  by_cases o1:(x1.1==[99,111,112,121])=true
  ·simp only [o1,if_true]
   exact uM (AK e8) (hP (Or.inl (bB o1)))
  ·by_cases o2:(x1.1==[106,111,105,110])=true
   ·simp only [o1,o2,if_true]
    exact uM (AK e8) (hP (Or.inr (Or.inl (bB o2))))
   ·by_cases o3:(x1.1==[103,114,111,117,112])=true
    ·simp only [o1,o2,o3,if_true]
     exact uM (AK e8) (hP (Or.inr (Or.inr (bB o3))))
    ·simp only [o1,o2,o3]
     refine uM (AK 1) ?_
     unfold cB
     rw [if_neg]
     rintro ⟨h | h | h,_⟩
     ·exact o1 (bb.2 h)
     ·exact o2 (bb.2 h)
     ·exact o3 (bb.2 h)
open Go

theorem Gd {n b0 b1 b2 b3:Nat} (h:b0 < 128):Lib.decodeN n b0 b1 b2 b3=(b0,1):=by
 unfold Lib.decodeN; rw [if_pos h]
theorem DN {n b0 b1 b2 b3:Nat} (h:¬ b0 < 128):128≤(Lib.decodeN n b0 b1 b2 b3).1:=by
 unfold Lib.decodeN
 rw [if_neg h]
 repeat' split
 all_goals (simp only; omega)

theorem Ha {p:Nat→Bool} (hp:∀ c:Nat,p c=true↔(c < 32∨c > 126)) (s:List UInt8):∀ (f pos:Nat),s.length≤pos+f→(Lib.idxFuncFrom p true ⟨s.toArray⟩ f pos < 0↔∀ (i:Nat) (h:i < s.length),pos≤i→32≤s[i].toNat∧s[i].toNat≤126)
 | 0,pos,h=>by
  simp only [Lib.idxFuncFrom]
  exact ⟨fun _ i hi hpi=>absurd hi (by omega),fun _=>by decide⟩
 | f + 1,pos,h=>by
  have hsz:(⟨s.toArray⟩:ByteArray).size=s.length:=by simp [ByteArray.size]
  rw [Lib.idxFuncFrom,hsz]
  by_cases hlt:pos < s.length
  ·have hb:((⟨s.toArray⟩:ByteArray).get! pos)=s[pos]:=by
    simp [ByteArray.get!,hlt]
   rw [if_pos hlt,Lib.decode_at,hb]
   by_cases h8:s[pos].toNat < 128
   ·rw [Gd h8]
    simp only
    by_cases ho:p s[pos].toNat=true
    ·rw [if_pos ho]
     have:=(hp _).1 ho
     exact ⟨fun h=>absurd h (by omega),fun h=>by have:=h pos hlt (bg _); omega⟩
    ·rw [if_neg ho,Ha hp s f (pos+1) (by omega)]
     have hn:¬ (s[pos].toNat < 32∨s[pos].toNat > 126):=fun h=>ho ((hp _).2 h)
     refine ⟨fun h i hi hpi=>?_,fun h i hi hpi=>h i hi (by omega)⟩
     by_cases e:i=pos
     ·subst e; omega
     ·exact h i hi (by omega)
   ·have hh:=DN (n:=(⟨s.toArray⟩:ByteArray).size - pos) (b1:=((⟨s.toArray⟩:ByteArray).get! (pos+1)).toNat) (b2:=((⟨s.toArray⟩:ByteArray).get! (pos+2)).toNat) (b3:=((⟨s.toArray⟩:ByteArray).get! (pos+3)).toNat) h8
    rw [if_pos ((hp _).2 (by omega))]
    exact ⟨fun h=>absurd h (by omega),fun h=>by have:=h pos hlt (bg _); omega⟩
  ·rw [if_neg hlt]
   exact ⟨fun _ i hi hpi=>absurd hi (by omega),fun _=>by decide⟩

theorem Pj {p:Nat→Bool} (hp:∀ c:Nat,p c=true↔(c < 32∨c > 126)) (s:List UInt8):Lib.idxFunc p true ⟨s.toArray⟩ < 0↔∀ b∈s,32≤b.toNat∧b.toNat≤126:=by
 have hsz:(⟨s.toArray⟩:ByteArray).size=s.length:=by simp [ByteArray.size]
 unfold Lib.idxFunc
 rw [Ha hp s _ 0 (by omega)]
 constructor
 ·intro h b hb
  obtain ⟨i,hi,rfl⟩:=kD hb
  exact h i hi (aK _)
 ·intro h i hi _
  exact h _ (bP hi)

def kr (v:Sem zg):Prop:=LE.le (α:=Int) (-9223372036854775808) v.2.1∧LE.le (α:=Int) v.2.1 9223372036854775807∧v.2.2.length≤1000000

theorem dR:∀ s:zw,Op.bytesLess s s=false
 | []=>rfl
 | a::r=>by simp [Op.bytesLess,dR r]

theorem Mm (s:zw):(sH s < 0)↔∀ b∈s,32≤b.toNat∧b.toNat≤126:=by
 refine Pj (p:=fun r=>I0 r) (fun c=>?_) s
 unfold I0
 cases h:decide ((c:Int) < 32) with
 | true=>simp at h ⊢; omega
 | false=>simp at h ⊢; omega

theorem Ss (b0 b1 b2 b3 c0 c1 e l:Bool):∃ r,(if b0=true then some (.inr (.bool (bif c0 then e else false),[])) else if b1=true then some (.inr (.bool e,[])) else if b2=true then some (.inr (.bool (bif c0 then l else false),[])) else if b3=true then some (.inr (.bool (bif c0 then e else bif c1 then e else false),[])) else some (.inr (.kb false,[])):Option (xt ⊕ aF))=some (.inr r)∧
  az r.2 [Sh.bool] r.1=some ((if b0=true then if (!c0)=true then false else e else if b1=true then e else if b2=true then bif c0 then bif l then true else false else false else if b3=true then bif c0 then e else bif c1 then e else false else false:Bool),()):=by
 cases b0 <;> cases b1 <;> cases b2 <;> cases b3 <;> cases c0 <;> cases c1 <;> cases e <;> cases l <;> exact ⟨_,rfl,rfl⟩
theorem Sr (b0 b1 b2 b3 c0 c1 l:Bool):(if b0=true then if (!c0)=true then false else false else if b1=true then false else if b2=true then bif c0 then bif l then false else false else false else if b3=true then bif c0 then false else bif c1 then false else false else false)=false:=by
 cases b0 <;> cases b1 <;> cases b2 <;> cases b3 <;> cases c0 <;> cases c1 <;> cases l <;> rfl

theorem Hl {v:Sem zg} (hl:v.2.2.length≤1000000):Ey v=some (ce v,()):=by
 obtain ⟨k,n,s⟩:=v
 have hl:s.length≤1000000:=hl
 have hf:=lm (t:=qA) (Φ:=fun r=>r=(.kb false,[])) 1 (fun i=>.h2 (i:Int) ((k,n,s),())) (fun i=>32≤(getD s i 0).toNat∧(getD s i 0).toNat≤126) s.length (by
  intro i hi _
  have hv:(qA (.h2 (i:Int) ((k,n,s),()))).val=if (bif decide (((getD s i 0).toNat:Int) < 32) then true else decide (((getD s i 0).toNat:Int) > 126))=true then some (.inr (.kb false,[])) else some (.inl (.h2 ((i+1:Nat):Int) ((k,n,s),()))):=by
   show (qA (.h2 _ _)).val=_
   unfold qA
   simp only [Tr.val,zM hi,zB hi,bd,if_true]
   rw [if_pos (by cases decide (((getD s i 0).toNat:Int) < 32) <;> rfl)]
   rw [zt i (by unfold zA; omega)]
  by_cases h1:(getD s i 0).toNat < 32
  ·refine .inr ⟨fun h=>by omega,_,ah.of (by rw [hv,if_pos (by rw [zu (by omega)]; rfl)]),rfl⟩
  ·by_cases h2:126 < (getD s i 0).toNat
   ·refine .inr ⟨fun h=>by omega,_,ah.of (by rw [hv,if_pos (by rw [ao (by omega),zu (by omega)]; rfl)]),rfl⟩
   ·refine .inl ⟨by omega,ap.of (by rw [hv,if_neg (by rw [ao (by omega),ao (by omega)]; simp)])⟩)
 have hi:(Ut (k,n,s)).val=some (.inl (.h2 ((0:Nat):Int) ((k,n,s),()))):=rfl
 have ho:=Mm s
 have hq:=ar (l:=s) (d:=0) (Q:=fun b=>32≤b.toNat∧b.toNat≤126)
 rcases hf with ⟨h1,h2⟩ | ⟨h1,r,h2,rfl⟩
 ·have ho2:decide (sH s < 0)=true:=zu (ho.2 (hq.1 h1))
  have hv:(qA (.h2 (s.length:Int) ((k,n,s),()))).val=(if (k==0)=true then some (.inr (.bool (bif (n==0) then (s==[]) else false),[])) else if (k==1)=true then some (.inr (.bool (s==[]),[])) else if (k==2)=true then some (.inr (.bool (bif (n==0) then decide ((length s:Int)≤40) else false),[])) else if (k==3)=true then some (.inr (.bool (bif (n==0) then (s==[]) else bif (n==1) then (s==[]) else false),[])) else some (.inr (.kb false,[]))):=by
   show (qA (.h2 _ _)).val=_
   unfold qA
   simp only [Tr.val,zH]
   rw [if_neg (by simp)]
  obtain ⟨r,hr1,hr2⟩:=Ss (k==0) (k==1) (k==2) (k==3) (n==0) (n==1) (s==[]) (decide ((length s:Int)≤40))
  have hm:ce (k,n,s)=(if (k==0)=true then if (!(n==0))=true then false else (s==[]) else if (k==1)=true then (s==[]) else if (k==2)=true then bif (n==0) then bif decide ((length s:Int)≤40) then true else false else false else if (k==3)=true then bif (n==0) then (s==[]) else bif (n==1) then (s==[]) else false else false):=by
   simp only [ce,ho2]
   rfl
  rw [hm]
  exact zD hi (h2.ends (ah.of (hv.trans hr1))) (by omega) hr2
 ·have ho2:decide (sH s < 0)=false:=ao (fun h=>h1 (hq.2 (ho.1 h)))
  have hs:(s==[])=false:=by
   cases s with
   | nil=>exact absurd (fun i hi=>absurd hi (by simp)) h1
   | cons _ _=>rfl
  have hm:ce (k,n,s)=false:=by
   simp only [ce,ho2,hs]
   exact Sr (k==0) (k==1) (k==2) (k==3) (n==0) (n==1) (decide ((length s:Int)≤40))
  rw [hm]
  exact zD hi h2 (by omega) rfl

theorem j9 {v:Sem zg} (hl:v.2.2.length≤1000000):kY v=true:=by unfold kY; rw [Hl hl]; rfl
theorem mH {v:Sem zg} (hl:v.2.2.length≤1000000):qy v=ce v:=by unfold qy; rw [Hl hl]; rfl

theorem C8 {v:Sem zg} (hl:v.2.2.length≤1000000):sV v=some (aM v,()):=by
 unfold sV aA cL
 simp only [Uv,Tr.val,j9 hl,mH hl,if_true,aM]
 cases ce v <;> rfl
theorem pq {v:Sem zg} (hl:v.2.2.length≤1000000):pp v=true:=by unfold pp; rw [C8 hl]; rfl
theorem sW {v:Sem zg} (hl:v.2.2.length≤1000000):eI v=aM v:=by unfold eI; rw [C8 hl]; rfl

def vd (b:Bool):Sem zg:=if b then (3,1,[]) else (3,0,[])
theorem Ak (b:Bool):sU b=some (vd b,()):=by cases b <;> rfl
theorem mI (b:Bool):kc b=true:=by unfold kc; rw [Ak]; rfl
theorem gx (b:Bool):aS b=vd b:=by unfold aS; rw [Ak]; rfl

def FC (v:Sem zg) (n:Int):Bool:=v.1==3&&(v.2.1==n&&(v.2.2==[]&&true))
theorem KR (v:Sem zg) (b:Bool):Hk v b=some (FC v (bif b then 1 else 0),()):=by
 unfold Hk aA cL
 simp only [Uu,Tr.val,mI,gx,if_true]
 cases b <;> rfl
theorem wH (v:Sem zg) (b:Bool):lK v b=true:=by unfold lK; rw [KR]; rfl
theorem Ex (v:Sem zg) (b:Bool):ol v b=FC v (bif b then 1 else 0):=by unfold ol; rw [KR]; rfl

theorem l7:aO 0=(0,0,[]):=by decide
theorem kj:aO 1=(3,0,[]):=by decide
theorem kk:aO 2=(3,1,[]):=by decide
theorem iJ (v:Sem zg):(dB v==1)=FC v 0∧(dB v==2)=FC v 1:=by
 obtain ⟨k,n,s⟩:=v
 unfold dB FC
 simp only [ce]
 by_cases hk:k=3
 ·subst hk
  by_cases h0:n=0
  ·subst h0
   cases hs:(s==[]) <;> simp [fD]
  ·by_cases h1:n=1
   ·subst h1
    cases hs:(s==[]) <;> simp [fD]
   ·have e0:(n==0)=false:=by simpa using h0
    have e1:(n==1)=false:=by simpa using h1
    simp [e0,e1]
 ·have e:(k==3)=false:=by simpa using hk
  have e':(k != 3)=true:=by simpa using hk
  simp [e,e']

theorem Hj (a b:Sem zg):Ad a b=some (BM a b,()):=by
 unfold Ad aA cL
 simp only [UB,Tr.val,wH,Ex,gx,BM,(iJ a).1,(iJ a).2,(iJ b).1,(iJ b).2,l7,kj,kk,aq,zU]
 cases FC a 0 <;> cases FC b 0 <;> cases FC a 1 <;> cases FC b 1 <;> rfl
theorem KT (a b:Sem zg):Hn a b=some (QI a b,()):=by
 unfold Hn aA cL
 simp only [UC,Tr.val,wH,Ex,gx,QI,(iJ a).1,(iJ a).2,(iJ b).1,(iJ b).2,l7,kj,kk,aq,zU]
 cases FC a 0 <;> cases FC b 0 <;> cases FC a 1 <;> cases FC b 1 <;> rfl
theorem Hm (a:Sem zg):Ag a=some (wq a,()):=by
 unfold Ag aA cL
 simp only [UA,Tr.val,wH,Ex,gx,wq,(iJ a).1,(iJ a).2,l7,kj,kk,aq,zU]
 cases FC a 0 <;> cases FC a 1 <;> rfl

theorem Pa (k k' n n':Int) (s s':zw):(if (k==k'&&(n==n'&&(s==s'&&true)))=true then (0:Int) else if (bif decide (k < k') then true else bif k==k' then bif decide (n < n') then true else bif n==n' then Op.bytesLess s s' else false else false)=true then -1 else 1)=PK [DL k k',rZ n n',DM s s']:=by
 simp only [PK,DL,rZ,DM]
 rcases F1 k k' with h | h | h
 ·have c1:(k==k')=false:=bO.2 (by omega)
  simp [c1,h]
 ·subst h
  rcases F1 n n' with h | h | h
  ·have c1:(n==n')=false:=bO.2 (by omega)
   simp [c1,h]
  ·subst h
   by_cases hs:s=s'
   ·subst hs
    simp [dR]
   ·have c1:(s==s')=false:=bO.2 hs
    by_cases hl:Op.bytesLess s s'=true
    ·simp [c1,hl]
    ·simp [c1,hl]
  ·have c1:(n==n')=false:=bO.2 (by omega)
   have c2:¬ n < n':=by omega
   simp [c1,c2,h]
 ·have c1:(k==k')=false:=bO.2 (by omega)
  have c2:¬ k < k':=by omega
  simp [c1,c2,h]

theorem Ai {a b:Sem zg} (ha:a.2.2.length≤1000000) (hb:b.2.2.length≤1000000):oo a b=some (dq a b,()):=by
 unfold oo aA cL
 simp only [zcb,Tr.val,pq ha,pq hb,sW ha,sW hb,if_true,dq]
 rw [← Pa]
 generalize ((aM a).1==(aM b).1&&((aM a).2.1==(aM b).2.1&&((aM a).2.2==(aM b).2.2&&true)))=b1
 generalize (bif decide ((aM a).1 < (aM b).1) then true else bif (aM a).1==(aM b).1 then bif decide ((aM a).2.1 < (aM b).2.1) then true else bif (aM a).2.1==(aM b).2.1 then Op.bytesLess (aM a).2.2 (aM b).2.2 else false else false)=b2
 cases b1 <;> cases b2 <;> rfl

theorem Je {a b:Sem zg} (ha:a.2.2.length≤1000000) (hb:b.2.2.length≤1000000):Ah a b=true:=by unfold Ah; rw [Ai ha hb]; rfl
theorem Mw {a b:Sem zg} (ha:a.2.2.length≤1000000) (hb:b.2.2.length≤1000000):EA a b=dq a b:=by unfold EA; rw [Ai ha hb]; rfl
theorem PZ (a b:Sem zg):Ew a b=true:=by unfold Ew; rw [Hj]; rfl
theorem SL (a b:Sem zg):C2 a b=BM a b:=by unfold C2; rw [Hj]; rfl
theorem SN (a b:Sem zg):KS a b=true:=by unfold KS; rw [KT]; rfl
theorem Ym (a b:Sem zg):Mv a b=QI a b:=by unfold Mv; rw [KT]; rfl
theorem P1 (a:Sem zg):Ez a=true:=by unfold Ez; rw [Hm]; rfl
theorem SM (a:Sem zg):C4 a=wq a:=by unfold C4; rw [Hm]; rfl

theorem Al {a b:Sem zg} (ha:a.2.2.length≤1000000) (hb:b.2.2.length≤1000000):oq a b=some (!eu a b,()):=by
 unfold oq aA cL
 simp only [UH,Tr.val,pq ha,pq hb,sW ha,sW hb,if_true,eu]
 generalize aM a=x
 generalize aM b=y
 obtain ⟨k,n,s⟩:=x
 obtain ⟨k',n',s'⟩:=y
 simp only
 by_cases h:k=0
 ·subst h; rfl
 ·have e:(k==0)=false:=by simpa using h
  have e2:(k != 0)=true:=by simpa using h
  rw [e,e2]
  by_cases h':k'=0
  ·subst h'
   have e3:(k==0)=false:=e
   simp [e3]
   rfl
  ·have e3:(k'==0)=false:=by simpa using h'
   rw [e3]
   rfl
theorem mJ {a b:Sem zg} (ha:a.2.2.length≤1000000) (hb:b.2.2.length≤1000000):lL a b=true:=by unfold lL; rw [Al ha hb]; rfl
theorem pn {a b:Sem zg} (ha:a.2.2.length≤1000000) (hb:b.2.2.length≤1000000):pm a b = !eu a b:=by unfold pm; rw [Al ha hb]; rfl

theorem iD (b:Bool):cR b=vd b:=by
 unfold cR vd
 rw [kj,kk]

theorem Ae {a b:Sem zg} (ha:a.2.2.length≤1000000) (hb:b.2.2.length≤1000000):oh a b=some (lh a b,()):=by
 unfold oh aA cL
 simp only [UD,Tr.val,mJ ha hb,pn ha hb,mI,gx,if_true,lh,iD]
 cases eu a b <;> rfl
theorem Jc {a b:Sem zg} (ha:a.2.2.length≤1000000) (hb:b.2.2.length≤1000000):sO a b=true:=by unfold sO; rw [Ae ha hb]; rfl
theorem Ms {a b:Sem zg} (ha:a.2.2.length≤1000000) (hb:b.2.2.length≤1000000):pk a b=lh a b:=by unfold pk; rw [Ae ha hb]; rfl

theorem F3 {a b:Sem zg} (h:eu a b=true):ce a=true∧ce b=true∧a.1=b.1∧a.1≠0∧aM a=a∧aM b=b:=by
 unfold eu aM at h
 unfold aM
 cases ha:ce a with
 | false=>simp [ha] at h
 | true=>
  cases hb:ce b with
  | false=>
   simp [ha,hb] at h
  | true=>
   simp [ha,hb] at h
   exact ⟨rfl,rfl,h.2,h.1,by simp,by simp⟩

theorem C0 {v:Sem zg} (h:ce v=true) (h0:v.1≠0):(v.1=1∧v.2.2=[])∨(v.1=2∧v.2.1=0)∨(v.1=3∧v.2.2=[]):=by
 obtain ⟨k,n,s⟩:=v
 unfold ce at h
 simp only at h h0 ⊢
 have e0:(k==0)=false:=by simpa using h0
 rw [e0] at h
 by_cases h1:k=1
 ·subst h1
  exact .inl ⟨rfl,by simpa using h⟩
 ·have e1:(k==1)=false:=by simpa using h1
  rw [e1] at h
  by_cases h2:k=2
  ·subst h2
   refine .inr (.inl ⟨rfl,?_⟩)
   simp at h
   exact h.1
  ·have e2:(k==2)=false:=by simpa using h2
   rw [e2] at h
   by_cases h3:k=3
   ·subst h3
    refine .inr (.inr ⟨rfl,?_⟩)
    cases hn:(n==0) with
    | true=>simp [hn] at h; exact h
    | false=>simp [hn] at h; exact h.2
   ·have e3:(k==3)=false:=by simpa using h3
    rw [e3] at h
    cases h

theorem Sp (k n n':Int) (s s':zw) (hd:(s=[]∧s'=[])∨(n=0∧n'=0)):decide (PK [DL k k,rZ n n',DM s s'] < 0)=(bif decide (n < n') then true else Op.bytesLess s s'):=by
 simp only [PK,DL,rZ,DM]
 rcases hd with ⟨rfl,rfl⟩ | ⟨rfl,rfl⟩
 ·rcases F1 n n' with h | h | h
  ·simp [h]
  ·subst h
   simp [dR]
  ·have c1:¬ n < n':=by omega
   simp [h,c1,dR]
 ·by_cases hl:Op.bytesLess s s'=true
  ·simp [hl]
  ·by_cases he:s=s'
   ·subst he; simp [dR]
   ·have c1:(s==s')=false:=bO.2 he
    simp [hl,c1]

theorem C3 {a b:Sem zg} (ha:a.2.2.length≤1000000) (hb:b.2.2.length≤1000000):sP a b=some (qF a b,()):=by
 unfold sP aA cL
 simp only [UE,Tr.val,mJ ha hb,pn ha hb,mI,gx,if_true,qF,iD]
 cases hal:eu a b with
 | false=>rfl
 | true=>
  obtain ⟨h1,h2,h3,h4,h5,h6⟩:=F3 hal
  have k1:=C0 h1 h4
  have k2:=C0 h2 (by rw [← h3]; exact h4)
  obtain ⟨k,n,s⟩:=a
  obtain ⟨k',n',s'⟩:=b
  simp only at h3 h4 k1 k2
  subst h3
  have hd:(s=[]∧s'=[])∨(n=0∧n'=0):=by
   rcases k1 with ⟨e1,e2⟩ | ⟨e1,e2⟩ | ⟨e1,e2⟩ <;> rcases k2 with ⟨f1,f2⟩ | ⟨f1,f2⟩ | ⟨f1,f2⟩ <;> first | exact .inl ⟨e2,f2⟩ | exact .inr ⟨e2,f2⟩ | exact absurd (e1.symm.trans f1) (by decide)
  have ho:decide (LT.lt (α:=Int) (dq (k,n,s) (k,n',s')) 0)=(bif decide (n < n') then true else Op.bytesLess s s'):=by
   unfold dq
   rw [h5,h6]
   exact Sp k n n' s s' hd
  rw [ho]
  by_cases h:n < n'
  ·have e:decide (n < n')=true:=zu h
   simp only [e]
   rfl
  ·have e:decide (n < n')=false:=ao h
   simp only [e]
   rfl
theorem Mt {a b:Sem zg} (ha:a.2.2.length≤1000000) (hb:b.2.2.length≤1000000):wI a b=true:=by unfold wI; rw [C3 ha hb]; rfl
theorem P0 {a b:Sem zg} (ha:a.2.2.length≤1000000) (hb:b.2.2.length≤1000000):uP a b=qF a b:=by unfold uP; rw [C3 ha hb]; rfl

theorem Mr {a b:Int} (a1:-9223372036854775808≤a) (a2:a≤9223372036854775807) (b1:-9223372036854775808≤b) (b2:b≤9223372036854775807):
  (bif decide (b > 0) then bif decide (a > IntKind.i64.wrap (9223372036854775807 - b)) then true else bif decide (b < 0) then decide (a < IntKind.i64.wrap (-9223372036854775808 - b)) else false else bif decide (b < 0) then decide (a < IntKind.i64.wrap (-9223372036854775808 - b)) else false)=
  (bif decide (b > 0) then bif decide (IntKind.i64.wrap (a+b) < a) then true else bif decide (b < 0) then decide (IntKind.i64.wrap (a+b) > a) else false else bif decide (b < 0) then decide (IntKind.i64.wrap (a+b) > a) else false):=by
 rcases F1 b 0 with h | h | h
 ·have e1:decide (b > 0)=false:=ao (by omega)
  have e2:decide (b < 0)=true:=zu h
  simp only [e1,e2,aq,zU]
  rw [fD,fD]
  apply iN.2
  rw [aN,aN]
  omega
 ·subst h; rfl
 ·have e1:decide (b > 0)=true:=zu h
  have e2:decide (b < 0)=false:=ao (by omega)
  simp only [e1,e2,aq,zU]
  have:decide (a > IntKind.i64.wrap (9223372036854775807 - b))=decide (IntKind.i64.wrap (a+b) < a):=by
   rw [fD,fD]
   apply iN.2
   rw [aN,aN]
   omega
  rw [this]
theorem IY {a b:Int} (a1:-9223372036854775808≤a) (a2:a≤9223372036854775807) (b1:-9223372036854775808≤b) (b2:b≤9223372036854775807):
  (bif decide (b > 0) then bif decide (a < IntKind.i64.wrap (-9223372036854775808+b)) then true else bif decide (b < 0) then decide (a > IntKind.i64.wrap (9223372036854775807+b)) else false else bif decide (b < 0) then decide (a > IntKind.i64.wrap (9223372036854775807+b)) else false)=
  (bif decide (b > 0) then bif decide (IntKind.i64.wrap (a - b) > a) then true else bif decide (b < 0) then decide (IntKind.i64.wrap (a - b) < a) else false else bif decide (b < 0) then decide (IntKind.i64.wrap (a - b) < a) else false):=by
 rcases F1 b 0 with h | h | h
 ·have e1:decide (b > 0)=false:=ao (by omega)
  have e2:decide (b < 0)=true:=zu h
  simp only [e1,e2,aq,zU]
  rw [fD,fD]
  apply iN.2
  rw [aN,aN]
  omega
 ·subst h; rfl
 ·have e1:decide (b > 0)=true:=zu h
  have e2:decide (b < 0)=false:=ao (by omega)
  simp only [e1,e2,aq,zU]
  have:decide (a < IntKind.i64.wrap (-9223372036854775808+b))=decide (IntKind.i64.wrap (a - b) > a):=by
   rw [fD,fD]
   apply iN.2
   rw [aN,aN]
   omega
  rw [this]

theorem C5 {a b:Sem zg} (ha:kr a) (hb:kr b):sS a b=some (qG a b,()):=by
 unfold sS aA cL
 simp only [UF,Tr.val,mJ ha.2.2 hb.2.2,pn ha.2.2 hb.2.2,if_true,qG]
 rw [Mr ha.1 ha.2.1 hb.1 hb.2.1]
 cases (bif !eu a b then true else a.1 != 1)
 ·cases (bif decide (b.2.1 > 0) then bif decide (IntKind.i64.wrap (a.2.1+b.2.1) < a.2.1) then true else bif decide (b.2.1 < 0) then decide (IntKind.i64.wrap (a.2.1+b.2.1) > a.2.1) else false else bif decide (b.2.1 < 0) then decide (IntKind.i64.wrap (a.2.1+b.2.1) > a.2.1) else false) <;> rfl
 ·rfl
theorem Mx {a b:Sem zg} (ha:kr a) (hb:kr b):wJ a b=true:=by unfold wJ; rw [C5 ha hb]; rfl
theorem P2 {a b:Sem zg} (ha:kr a) (hb:kr b):uQ a b=qG a b:=by unfold uQ; rw [C5 ha hb]; rfl

theorem Af {a b:Sem zg} (ha:kr a) (hb:kr b):om a b=some (ll a b,()):=by
 unfold om aA cL
 simp only [UG,Tr.val,mJ ha.2.2 hb.2.2,pn ha.2.2 hb.2.2,if_true,ll]
 rw [IY ha.1 ha.2.1 hb.1 hb.2.1]
 cases (bif !eu a b then true else a.1 != 1)
 ·cases (bif decide (b.2.1 > 0) then bif decide (IntKind.i64.wrap (a.2.1 - b.2.1) > a.2.1) then true else bif decide (b.2.1 < 0) then decide (IntKind.i64.wrap (a.2.1 - b.2.1) < a.2.1) else false else bif decide (b.2.1 < 0) then decide (IntKind.i64.wrap (a.2.1 - b.2.1) < a.2.1) else false) <;> rfl
 ·rfl
theorem Jd {a b:Sem zg} (ha:kr a) (hb:kr b):sQ a b=true:=by unfold sQ; rw [Af ha hb]; rfl
theorem Mu {a b:Sem zg} (ha:kr a) (hb:kr b):pl a b=ll a b:=by unfold pl; rw [Af ha hb]; rfl

theorem v6 (c:Int):lT c=some (aH c,()):=by
 unfold lT aA cL
 simp only [Uy,Tr.val,aH]
 by_cases h1:97≤c
 ·have e1:decide (97≤c)=true:=zu h1
  have e2:decide (c≤90)=false:=ao (by omega)
  have e3:decide (65≤c)=true:=zu (by omega)
  simp [e1,e2,e3]
  rfl
 ·have e1:decide (97≤c)=false:=ao h1
  simp [e1]
  rfl
theorem kP (c:Int):jJ c=true:=by unfold jJ; rw [v6]; rfl
theorem mO (c:Int):lS c=aH c:=by unfold lS; rw [v6]; rfl
theorem AA (c:Int):tg c=some (zO c,()):=rfl
theorem eh (c:Int):fh c=true:=by unfold fh; rw [AA]; rfl
theorem fx (c:Int):gh c=zO c:=by unfold gh; rw [AA]; rfl
theorem Df (c:Int):th c=some (bl c,()):=by
 unfold th aA cL
 simp only [Uz,Tr.val,eh,fx,kP,mO,bl]
 cases zO c <;> cases aH c <;> rfl
theorem pF (c:Int):pE c=true:=by unfold pE; rw [Df]; rfl
theorem tk (c:Int):uV c=bl c:=by unfold uV; rw [Df]; rfl

theorem G3 (p:Int→Bool):∀ s:zw,cy p s=s.length↔∀ c∈s,p c.toNat=true
 | []=>by simp [cy]
 | c::r=>by
  have ih:=G3 p r
  rw [cy]
  by_cases h:p c.toNat=true
  ·rw [if_pos h]
   simp only [mY,dQ,forall_eq_or_imp]
   constructor
   ·intro h2; exact ⟨h,ih.1 (by omega)⟩
   ·intro h2; rw [ih.2 h2.2]
  ·rw [if_neg h]
   simp only [mY,dQ,forall_eq_or_imp]
   exact ⟨fun h2=>absurd h2 (by omega),fun h2=>absurd h2.1 h⟩
theorem G4 {c:Int} (h:aH c=true):bl c=true:=by
 unfold bl; rw [h]; rfl

theorem MN (s:zw):oN s=true↔(1≤s.length∧s.length≤16∧aH (getD s 0 0).toNat=true∧∀ c∈s,bl c.toNat=true):=by
 unfold oN
 cases s with
 | nil=>simp
 | cons c r=>
  have e1:decide (((c::r).length:Int) ≥ 1)=true:=zu (by simp; omega)
  rw [e1]
  by_cases h:(c::r).length≤16
  ·have e2:decide (((c::r).length:Int)≤16)=true:=zu (by omega)
   rw [e2]
   simp only [zU]
   have ha:=G3 bl r
   by_cases hl:aH c.toNat=true
   ·have er:aI aH bl (c::r)=cy bl r+1:=by rw [aI,if_pos hl]
    rw [er]
    constructor
    ·intro h2
     have:cy bl r=r.length:=by simp at h2; omega
     refine ⟨by simp,h,hl,?_⟩
     intro x hx
     rcases dQ.1 hx with rfl | hx
     ·exact G4 hl
     ·exact ha.1 this x hx
    ·rintro ⟨_,_,_,h3⟩
     have:=ha.2 (fun x hx=>h3 x (B2 _ hx))
     simp [this]
   ·have er:aI aH bl (c::r)=0:=by rw [aI,if_neg hl]
    rw [er]
    constructor
    ·intro h2
     simp at h2
     omega
    ·rintro ⟨_,_,h2,_⟩
     exact absurd h2 hl
  ·have e2:decide (((c::r).length:Int)≤16)=false:=ao (by omega)
   rw [e2]
   simp only [zU,aq]
   exact ⟨fun h=>(by cases h),fun h2=>absurd h2.2.1 h⟩

theorem De {s:zw} (hl:s.length≤1000000):wV s=some (dC s,()):=by
 have hf:=lm (t:=tL) (Φ:=fun r=>r=(.kb false,[])) 1 (fun i=>.h2 s (i:Int)) (fun i=>bl (getD s i 0).toNat=true) s.length (by
  intro i hi _
  have hv:(tL (.h2 s (i:Int))).val=if (!bl (getD s i 0).toNat)=true then some (.inr (.kb false,[])) else some (.inl (.h2 s ((i+1:Nat):Int))):=by
   show (tL (.h2 _ _)).val=_
   unfold tL
   simp only [Tr.val,zM hi,zB hi,bd,pF,tk,if_true]
   rw [zt i (by unfold zA; omega)]
  by_cases h:bl (getD s i 0).toNat=true
  ·exact .inl ⟨h,ap.of (by rw [hv,if_neg (by rw [h]; simp)])⟩
  ·exact .inr ⟨h,_,ah.of (by rw [hv,if_pos (by simpa using h)]),rfl⟩)
 have hi:(Ux s).val=some (.inl (.h2 s ((0:Nat):Int))):=rfl
 have hq:=ar (l:=s) (d:=0) (Q:=fun c=>bl c.toNat=true)
 have hw:=MN s
 rcases hf with ⟨h1,h2⟩ | ⟨h1,r,h2,rfl⟩
 ·refine zD hi (h2.ends (ah.of (r:=(.bool (dC s),[])) ?_)) (by omega) rfl
  show (tL (.h2 _ _)).val=_
  unfold tL
  simp only [Tr.val,zH,kP,mO]
  have e:dC s=(bif decide (1≤(s.length:Int)) then bif decide ((s.length:Int)≤16) then aH (getD s (toNat 0) 0).toNat else false else false):=by
   apply iN.2
   unfold dC
   rw [hw]
   by_cases k1:1≤s.length
   ·have e1:decide (1≤(s.length:Int))=true:=zu (by omega)
    rw [e1]
    by_cases k2:s.length≤16
    ·have e2:decide ((s.length:Int)≤16)=true:=zu (by omega)
     rw [e2]
     exact ⟨fun h=>h.2.2.1,fun h=>⟨k1,k2,h,hq.1 h1⟩⟩
    ·have e2:decide ((s.length:Int)≤16)=false:=ao (by omega)
     rw [e2]
     exact ⟨fun h=>absurd h.2.1 k2,fun h=>(by cases h)⟩
   ·have e1:decide (1≤(s.length:Int))=false:=ao (by omega)
    rw [e1]
    exact ⟨fun h=>absurd h.1 k1,fun h=>(by cases h)⟩
  rw [e]
  by_cases k1:1≤s.length
  ·have e0:zR 0 s.length=true:=zB (i:=0) (by omega)
   rw [e0]
   cases decide (1≤(s.length:Int)) <;> cases decide ((s.length:Int)≤16) <;> rfl
  ·have e1:decide (1≤(s.length:Int))=false:=ao (by omega)
   rw [e1]; rfl
 ·have e:dC s=false:=by
   cases hh:dC s with
   | false=>rfl
   | true=>exact absurd (hq.2 (hw.1 hh).2.2.2) h1
  rw [e]
  exact zD hi h2 (by omega) rfl
theorem uU {s:zw} (hl:s.length≤1000000):tf s=true:=by unfold tf; rw [De hl]; rfl
theorem Az {s:zw} (hl:s.length≤1000000):rD s=dC s:=by unfold rD; rw [De hl]; rfl

noncomputable def uZ:List zw:=match (Oy []).val with
 | some (.inl (.h3 _ l _))=>l
 | _=>[]
theorem Qd:uZ.length=38:=by kernel_rfl
theorem Qe:(uZ.all fun w=>(Bk.map (·.1)).contains w)=true:=by kernel_rfl
theorem Qf:(Bk.all fun w=>uZ.contains w.1)=true:=by kernel_rfl
theorem JM:(Bk.all fun w=>w.2)=true:=by kernel_rfl
theorem Lg (s:zw):∀ l:List (zw×Bool),(l.all fun w=>w.2)=true→(Lf s l false=true↔s∈l.map (·.1))
 | [],_=>by simp [Lf]
 | (w,b)::r,h=>by
  simp only [List.all_cons,aV] at h
  obtain ⟨rfl,h⟩:=h
  rw [Lf]
  by_cases e:(s==w)=true
  ·have:s=w:=bB e
   rw [if_pos e]; simp [this]
  ·rw [if_neg e,Lg s r h]
   have:s≠w:=fun h=>e (by rw [h]; simp)
   simp [this]
theorem K9 (s:zw):iB s=true↔s∈uZ:=by
 unfold iB
 rw [Lg s Bk JM]
 constructor
 ·intro h
  obtain ⟨w,hw,rfl⟩:=fQ.1 h
  have:=fE.1 Qf w hw
  simpa using this
 ·intro h
  have:=fE.1 Qe s h
  simpa using this

theorem HD (s:zw):EW s=some (iB s,()):=by
 have hn:=Qd
 have hf:=lm (t:=A3) (Φ:=fun r=>r=(.kb true,[])) 1 (fun i=>.h3 s uZ (i:Int)) (fun i=>getD uZ i (zi Sh.str)≠s) uZ.length (by
  intro i hi _
  have hv:(A3 (.h3 s uZ (i:Int))).val=if (getD uZ i (zi Sh.str)==s)=true then some (.inr (.kb true,[])) else some (.inl (.h3 s uZ ((i+1:Nat):Int))):=by
   show (A3 (.h3 _ _ _)).val=_
   unfold A3
   simp only [Tr.val,zM hi,zB hi,bd,if_true]
   rw [zt i (by unfold zA; omega)]
  by_cases h:getD uZ i (zi Sh.str)=s
  ·exact .inr ⟨fun h2=>h2 h,_,ah.of (by rw [hv,if_pos (by rw [h]; simp)]),rfl⟩
  ·exact .inl ⟨h,ap.of (by rw [hv,if_neg (fun h2=>h (bB h2))])⟩)
 have hi:(Oy s).val=some (.inl (.h3 s uZ ((0:Nat):Int))):=rfl
 have hq:=ar (l:=uZ) (d:=zi Sh.str) (Q:=fun w=>w≠s)
 rcases hf with ⟨h1,h2⟩ | ⟨h1,r,h2,rfl⟩
 ·have e:iB s=false:=by
   cases hh:iB s with
   | false=>rfl
   | true=>exact absurd rfl (hq.1 h1 s ((K9 s).1 hh))
  rw [e]
  refine zD hi (h2.ends (ah.of (r:=(.kb false,[])) ?_)) (by omega) rfl
  show (A3 (.h3 _ _ _)).val=_
  unfold A3
  simp only [Tr.val,zH]
  rfl
 ·have e:iB s=true:=by
   cases hh:iB s with
   | true=>rfl
   | false=>exact absurd (hq.2 fun w hw hws=>by rw [hws] at hw; rw [(K9 s).2 hw] at hh; cases hh) h1
  rw [e]
  exact zD hi h2 (by omega) rfl
theorem HC (s:zw):AB s=true:=by unfold AB; rw [HD]; rfl
theorem K0 (s:zw):HB s=iB s:=by unfold HB; rw [HD]; rfl

theorem Dg {s:zw} (hl:s.length≤1000000):tn s=some (zJ s,()):=by
 unfold tn aA cL
 simp only [zcf,Tr.val,uU hl,Az hl,HC,K0,zJ]
 cases dC s <;> rfl
theorem bm {s:zw} (hl:s.length≤1000000):dj s=true:=by unfold dj; rw [Dg hl]; rfl
theorem eA {s:zw} (hl:s.length≤1000000):bj s=zJ s:=by unfold bj; rw [Dg hl]; rfl

mutual
def mX:ze→Prop
 | .mk _ v s l=>kr v∧s.length≤1000000∧jN l
def jN:List ze→Prop
 | []=>True
 | e::r=>mX e∧jN r
end
theorem jN.mem:∀ {l:List ze},jN l→∀ e∈l,mX e
 | [],_,e,h=>by simp at h
 | x::r,h,e,he=>by
  rw [jN] at h
  rcases dQ.1 he with rfl | he
  ·exact h.1
  ·exact jN.mem h.2 e he

def BL (op:zw):Bool:=bif op==[97,110,100] then true else bif op==[111,114] then true else bif op==[61] then true else bif op==[60] then true else bif op==[43] then true else op==[45]
theorem Ht (s:zw):Ji s=some (BL s,()):=rfl
theorem P4 (s:zw):EH s=true:=by unfold EH; rw [Ht]; rfl
theorem SO (s:zw):KX s=BL s:=by unfold KX; rw [Ht]; rfl

def bV:Nat→ze→Bool
 | 0,_=>false
 | d+1,.mk op v s l=>
  if (op==[108,105,116])=true then (bif ce v then bif s==[] then (l.length:Int)==0 else false else false) else
  if (op==[99,111,108])=true then (bif aU v then bif dC s then bif !iB s then (l.length:Int)==0 else false else false else false) else
  if (bif op==[110,111,116] then true else op==[110,117,108,108])=true then (bif aU v then bif s==[] then (match l with | [a]=>bV d a | _=>false) else false else false) else
  if BL op=true then (bif aU v then bif s==[] then (match l with | [a,b]=>bif bV d a then bV d b else false | _=>false) else false else false) else false
def nE:Nat→ze→Nat
 | 0,_=>0
 | d+1,.mk _ _ _ l=>1+(l.map (nE d)).sum

theorem MU (d:Nat) (h:d≤1000):IntKind.i64.wrap (((d+1:Nat):Int) - 1)=(d:Int):=oP d (by unfold zA; omega)

theorem Da:∀ (N d:Nat) (e:ze),d≤12→d < N→mX e→fw N e (d:Int)=some (bV d e,())
 | 0,_,_,_,h,_=>absurd h (by omega)
 | N+1,0,e,_,_,_=>by
  rw [fw]
  unfold EG aA cL
  rfl
 | N+1,d+1,.mk op v s l,h1,h2,hw=>by
  rw [mX] at hw
  obtain ⟨hv,hs,hl⟩:=hw
  have hN:∀ a∈l,fw N a (d:Int)=some (bV d a,()):=fun a ha=>Da N d a (by omega) (by omega) (hl.mem a ha)
  rw [fw]
  unfold EG aA cL
  have hx:(((d+1:Nat):Int)==0)=false:=bO.2 (by omega)
  simp only [Ko,Tr.val,zn,ze.op,ze.v,ze.s,ze.l,j9 hv.2.2,mH hv.2.2,uU hs,Az hs,HC,K0,P4,SO,MU d (by omega),if_true,hx]
  match l,hN with
  | [],_=>
   simp only [bV,aU]
   rcases zG (op==[108,105,116]) with c1 | c1
   ·rcases zG (ce v) with c5 | c5 <;> rcases zG (s==[]) with c6 | c6 <;> (simp only [c1,c5,c6,zU,aq,if_true,if_false,zV,dt]; rfl)
   rcases zG (op==[99,111,108]) with c2 | c2
   ·rcases zG (aU v) with c5 | c5 <;> rcases zG (dC s) with c6 | c6 <;> rcases zG (iB s) with c7 | c7 <;> (simp only [aU] at c5; simp only [c1,c2,c5,c6,c7,zU,aq,if_true,if_false,zV,dt,ck,dn]; rfl)
   rcases zG (bif op==[110,111,116] then true else op==[110,117,108,108]) with c3 | c3
   ·rcases zG (aU v) with c5 | c5 <;> rcases zG (s==[]) with c6 | c6 <;> (simp only [aU] at c5; simp only [c1,c2,c3,c5,c6,zU,aq,if_true,if_false,zV,dt]; rfl)
   rcases zG (BL op) with c4 | c4
   ·rcases zG (aU v) with c5 | c5 <;> rcases zG (s==[]) with c6 | c6 <;> (simp only [aU] at c5; simp only [c1,c2,c3,c4,c5,c6,zU,aq,if_true,if_false,zV,dt]; rfl)
   ·simp only [c1,c2,c3,c4,if_false,zV,dt]; rfl
  | [a],hN=>
   have ha:=hN a (by simp)
   simp only [bV,aU,show getD [a] (toNat 0) (zi Sh.expr)=a from rfl,ha,show zR 0 [a].length=true from rfl,F0,show ∀ x,mL (some (x,()))=x from fun _=>rfl]
   rcases zG (op==[108,105,116]) with c1 | c1
   ·rcases zG (ce v) with c5 | c5 <;> rcases zG (s==[]) with c6 | c6 <;> (simp only [c1,c5,c6,zU,aq,if_true,if_false,zV,dt]; rfl)
   rcases zG (op==[99,111,108]) with c2 | c2
   ·rcases zG (aU v) with c5 | c5 <;> rcases zG (dC s) with c6 | c6 <;> rcases zG (iB s) with c7 | c7 <;> (simp only [aU] at c5; simp only [c1,c2,c5,c6,c7,zU,aq,if_true,if_false,zV,dt,ck,dn]; rfl)
   rcases zG (bif op==[110,111,116] then true else op==[110,117,108,108]) with c3 | c3
   ·rcases zG (aU v) with c5 | c5 <;> rcases zG (s==[]) with c6 | c6 <;> rcases zG (bV d a) with c7 | c7 <;> (simp only [aU] at c5; simp only [c1,c2,c3,c5,c6,c7,zU,aq,if_true,if_false,zV,dt]; rfl)
   rcases zG (BL op) with c4 | c4
   ·rcases zG (aU v) with c5 | c5 <;> rcases zG (s==[]) with c6 | c6 <;> rcases zG (bV d a) with c7 | c7 <;> (simp only [aU] at c5; simp only [c1,c2,c3,c4,c5,c6,c7,zU,aq,if_true,if_false,zV,dt]; rfl)
   ·simp only [c1,c2,c3,c4,if_false,zV,dt]; rfl
  | [a,b],hN=>
   have ha:=hN a (by simp)
   have hb:=hN b (by simp)
   simp only [bV,aU,show getD [a,b] (toNat 0) (zi Sh.expr)=a from rfl,show getD [a,b] (toNat 1) (zi Sh.expr)=b from rfl,ha,hb,show zR 0 [a,b].length=true from rfl,show zR 1 [a,b].length=true from rfl,F0,show ∀ x,mL (some (x,()))=x from fun _=>rfl]
   rcases zG (op==[108,105,116]) with c1 | c1
   ·rcases zG (ce v) with c5 | c5 <;> rcases zG (s==[]) with c6 | c6 <;> (simp only [c1,c5,c6,zU,aq,if_true,if_false,zV,dt]; rfl)
   rcases zG (op==[99,111,108]) with c2 | c2
   ·rcases zG (aU v) with c5 | c5 <;> rcases zG (dC s) with c6 | c6 <;> rcases zG (iB s) with c7 | c7 <;> (simp only [aU] at c5; simp only [c1,c2,c5,c6,c7,zU,aq,if_true,if_false,zV,dt,ck,dn]; rfl)
   rcases zG (bif op==[110,111,116] then true else op==[110,117,108,108]) with c3 | c3
   ·rcases zG (aU v) with c5 | c5 <;> rcases zG (s==[]) with c6 | c6 <;> rcases zG (bV d a) with c7 | c7 <;> rcases zG (bV d b) with c8 | c8 <;> (simp only [aU] at c5; simp only [c1,c2,c3,c5,c6,c7,c8,zU,aq,if_true,if_false,zV,dt]; rfl)
   rcases zG (BL op) with c4 | c4
   ·rcases zG (aU v) with c5 | c5 <;> rcases zG (s==[]) with c6 | c6 <;> rcases zG (bV d a) with c7 | c7 <;> rcases zG (bV d b) with c8 | c8 <;> (simp only [aU] at c5; simp only [c1,c2,c3,c4,c5,c6,c7,c8,zU,aq,if_true,if_false,zV,dt]; rfl)
   ·simp only [c1,c2,c3,c4,if_false,zV,dt]; rfl
  | a::b::c::r,_=>
   have e0:((((a::b::c::r).length:Nat):Int)==0)=false:=bO.2 (by simp; omega)
   have e1:((((a::b::c::r).length:Nat):Int)==1)=false:=bO.2 (by simp; omega)
   have e2:((((a::b::c::r).length:Nat):Int)==2)=false:=bO.2 (by simp; omega)
   simp only [bV,aU,e0,e1,e2]
   rcases zG (op==[108,105,116]) with c1 | c1
   ·rcases zG (ce v) with c5 | c5 <;> rcases zG (s==[]) with c6 | c6 <;> (simp only [c1,c5,c6,zU,aq,if_true,if_false,zV,dt]; rfl)
   rcases zG (op==[99,111,108]) with c2 | c2
   ·rcases zG (aU v) with c5 | c5 <;> rcases zG (dC s) with c6 | c6 <;> rcases zG (iB s) with c7 | c7 <;> (simp only [aU] at c5; simp only [c1,c2,c5,c6,c7,zU,aq,if_true,if_false,zV,dt,ck,dn]; rfl)
   rcases zG (bif op==[110,111,116] then true else op==[110,117,108,108]) with c3 | c3
   ·rcases zG (aU v) with c5 | c5 <;> rcases zG (s==[]) with c6 | c6 <;> (simp only [aU] at c5; simp only [c1,c2,c3,c5,c6,zU,aq,if_true,if_false,zV,dt]; rfl)
   rcases zG (BL op) with c4 | c4
   ·rcases zG (aU v) with c5 | c5 <;> rcases zG (s==[]) with c6 | c6 <;> (simp only [aU] at c5; simp only [c1,c2,c3,c4,c5,c6,zU,aq,if_true,if_false,zV,dt]; rfl)
   ·simp only [c1,c2,c3,c4,aq,if_false,zV,dt]; rfl

theorem MK {op:zw} (h:BL op=true):op=[97,110,100]∨op=[111,114]∨op=[61]∨op=[60]∨op=[43]∨op=[45]:=by
 unfold BL at h
 rcases zG (op==[97,110,100]) with c | c
 ·exact .inl (bB c)
 rcases zG (op==[111,114]) with c2 | c2
 ·exact .inr (.inl (bB c2))
 rcases zG (op==[61]) with c3 | c3
 ·exact .inr (.inr (.inl (bB c3)))
 rcases zG (op==[60]) with c4 | c4
 ·exact .inr (.inr (.inr (.inl (bB c4))))
 rcases zG (op==[43]) with c5 | c5
 ·exact .inr (.inr (.inr (.inr (.inl (bB c5)))))
 rcases zG (op==[45]) with c6 | c6
 ·exact .inr (.inr (.inr (.inr (.inr (bB c6)))))
 rw [c,c2,c3,c4,c5,c6] at h
 cases h

inductive Nb (d:Nat):ze→Prop
 | lit (v:Int×Int×zw) (h:ce v=true):Nb d (.mk [108,105,116] v [] [])
 | col (s:zw) (h:dC s=true) (h2:iB s=false):Nb d (.mk [99,111,108] (0,0,[]) s [])
 | one (op:zw) (a:ze) (h:op=[110,111,116]∨op=[110,117,108,108]) (ha:bV d a=true):Nb d (.mk op (0,0,[]) [] [a])
 | two (op:zw) (a b:ze) (h:op=[97,110,100]∨op=[111,114]∨op=[61]∨op=[60]∨op=[43]∨op=[45]) (ha:bV d a=true) (hb:bV d b=true):Nb d (.mk op (0,0,[]) [] [a,b])

theorem yJ {v:Int×Int×zw} (h:aU v=true):v=(0,0,[]):=by
 obtain ⟨a,b,c⟩:=v
 unfold aU at h
 simp at h
 obtain ⟨rfl,rfl,rfl⟩:=h
 rfl
theorem bW {a b:Bool} (h:(bif a then b else false)=true):a=true∧b=true:=by
 cases a <;> cases b <;> simp_all
theorem Ml {op:zw} (h:(bif op==[110,111,116] then true else op==[110,117,108,108])=true):op=[110,111,116]∨op=[110,117,108,108]:=by
 rcases zG (op==[110,111,116]) with k | k
 ·exact .inl (bB k)
 ·rw [k] at h; exact .inr (bB h)
theorem fe {d:Nat}:∀ {e:ze},bV (d+1) e=true→Nb d e
 | .mk op v s [],h=>by
  simp only [bV] at h
  split at h
  ·rename_i c
   obtain ⟨h1,h2⟩:=bW h
   obtain ⟨h3,h4⟩:=bW h2
   rw [bB c,bB h3]
   exact .lit v h1
  split at h
  ·rename_i c
   obtain ⟨h1,h2⟩:=bW h
   obtain ⟨h3,h4⟩:=bW h2
   obtain ⟨h5,h6⟩:=bW h4
   rw [bB c,yJ h1]
   exact .col s h3 (by simpa using h5)
  split at h
  ·cases hh:aU v <;> cases hs:(s==[]) <;> simp [hh,hs] at h
  split at h
  ·cases hh:aU v <;> cases hs:(s==[]) <;> simp [hh,hs] at h
  ·cases h
 | .mk op v s [a],h=>by
  simp only [bV] at h
  split at h
  ·cases hh:ce v <;> cases hs:(s==[]) <;> simp [hh,hs] at h
  split at h
  ·cases hh:aU v <;> cases hs:dC s <;> cases hr:iB s <;> simp [hh,hs,hr] at h
  split at h
  ·rename_i c
   obtain ⟨h1,h2⟩:=bW h
   obtain ⟨h3,h4⟩:=bW h2
   rw [bB h3,yJ h1]
   exact .one op a (Ml c) h4
  split at h
  ·cases hh:aU v <;> cases hs:(s==[]) <;> simp [hh,hs] at h
  ·cases h
 | .mk op v s [a,b],h=>by
  simp only [bV] at h
  split at h
  ·cases hh:ce v <;> cases hs:(s==[]) <;> simp [hh,hs] at h
  split at h
  ·cases hh:aU v <;> cases hs:dC s <;> cases hr:iB s <;> simp [hh,hs,hr] at h
  split at h
  ·cases hh:aU v <;> cases hs:(s==[]) <;> simp [hh,hs] at h
  split at h
  ·rename_i c
   obtain ⟨h1,h2⟩:=bW h
   obtain ⟨h3,h4⟩:=bW h2
   obtain ⟨ha,hb⟩:=bW h4
   rw [bB h3,yJ h1]
   exact .two op a b (MK c) ha hb
  ·cases h
 | .mk op v s (a::b::c::r),h=>by
  have e0:((((a::b::c::r).length:Nat):Int)==0)=false:=bO.2 (by simp; omega)
  simp only [bV,e0] at h
  split at h
  ·cases hh:ce v <;> cases hs:(s==[]) <;> simp [hh,hs] at h
  split at h
  ·cases hh:aU v <;> cases hs:dC s <;> cases hr:iB s <;> simp [hh,hs,hr] at h
  split at h
  ·cases hh:aU v <;> cases hs:(s==[]) <;> simp [hh,hs] at h
  split at h
  ·cases hh:aU v <;> cases hs:(s==[]) <;> simp [hh,hs] at h
  ·cases h

theorem qt:∀ (d:Nat) (e:ze),bV d e=true→nE d e+1≤2 ^ d
 | 0,_,h=>by cases h
 | d+1,e,h=>by
  have h2:0 < 2 ^ d:=Nat.two_pow_pos d
  cases fe h with
  | lit v h=>simp [nE,xJ]; omega
  | col s h h2=>simp [nE,xJ]; omega
  | one op a h ha=>have:=qt d a ha; simp [nE,xJ]; omega
  | two op a b h ha hb=>have:=qt d a ha; have:=qt d b hb; simp [nE,xJ]; omega
theorem X0 {d:Nat} {e:ze} (h:bV d e=true):1≤nE d e:=by
 cases d with
 | zero=>cases h
 | succ d=>
  obtain ⟨op,v,s,l⟩:=e
  rw [nE]; omega

theorem QC {n:Nat} (h:n≤1000000):IntKind.i64.wrap (n:Int)=(n:Int):=by
 rw [fD]; omega

theorem mM:∀ (N d:Nat) (e:ze),d≤12→d≤N→bV d e=true→bY N e=some ((nE d e:Int),())
 | _,0,_,_,_,h=>by cases h
 | 0,d+1,_,_,h,_=>absurd h (by omega)
 | N+1,d+1,e,h1,h2,h=>by
  have hp:2 ^ (d+1)≤2 ^ 12:=B3 (by omega) (by omega)
  have hle:=qt (d+1) e h
  have hstep:∀ (e:ze) (i:Nat) (n k:Nat) (hi:i < (ze.l e).length),bY N (ze.l e)[i]=some ((k:Int),())→n+k≤1000000→i≤1000→
    (A4 (fun x0=>gR (bY N x0)) (fun x0=>(bY N x0).isSome) (.h3 (n:Int) (i:Int) (e,()))).val=some (.inl (.h3 ((n+k:Nat):Int) ((i+1:Nat):Int) (e,()))):=by
   intro e i n k hi k1 k2 k3
   have g0:getD (ze.l e) (i:Int).toNat (zi Sh.expr)=(ze.l e)[i]:=zX _ _ hi
   simp only [A4,Fh,A5,Tr.val,g0,zn,k1,zM hi,zB hi,F0,if_true]
   show some (Sum.inl (rL.h3 (IntKind.i64.wrap ((n:Int)+(k:Int))) _ _))=_
   rw [zt i (by unfold zA; omega),← rP,QC k2]
  have hend:∀ (e:ze) (n:Nat),(A4 (fun x0=>gR (bY N x0)) (fun x0=>(bY N x0).isSome) (.h3 (n:Int) ((ze.l e).length:Int) (e,()))).val=some (.inr (.int .i64 n,[])):=by
   intro e n
   simp only [A4,Fh,A5,Tr.val,zH]
   rfl
  have hgo:∀ e,(Kp (fun x0=>gR (bY N x0)) (fun x0=>(bY N x0).isSome) e).val=some (.inl (.h3 ((1:Nat):Int) ((0:Nat):Int) (e,()))):=fun _=>rfl
  rw [bY]
  unfold Hs
  cases fe h with
  | lit v h=>exact zD (hgo _) (ah.of (hend _ 1)) (by omega) rfl
  | col s h h2=>exact zD (hgo _) (ah.of (hend _ 1)) (by omega) rfl
  | one op a h ha=>
   have ka:=mM N d a (by omega) (by omega) ha
   have l1:=qt d a ha
   have p1:2 ^ d≤2 ^ 12:=B3 (by omega) (by omega)
   refine zD (hgo _) ((ap.of (hstep (.mk op (0,0,[]) [] [a]) 0 1 (nE d a) (by simp [ze.l]) ka (by omega) (by omega))).ends (ah.of (hend (.mk op (0,0,[]) [] [a]) _))) (by omega) ?_
   simp [nE]
   rfl
  | two op a b h ha hb=>
   have ka:=mM N d a (by omega) (by omega) ha
   have kb:=mM N d b (by omega) (by omega) hb
   have l1:=qt d a ha
   have l2:=qt d b hb
   have p1:2 ^ d≤2 ^ 12:=B3 (by omega) (by omega)
   refine zD (hgo _) ((ap.of (hstep (.mk op (0,0,[]) [] [a,b]) 0 1 (nE d a) (by simp [ze.l]) ka (by omega) (by omega))).ends ((ap.of (hstep (.mk op (0,0,[]) [] [a,b]) 1 (1+nE d a) (nE d b) (by simp [ze.l]) kb (by omega) (by omega))).ends (ah.of (hend (.mk op (0,0,[]) [] [a,b]) _)))) (by omega) ?_
   simp [nE,Nat.add_assoc]
   rfl

theorem pd:∀ (N k:Nat) (e:ze) (n:Nat),k≤12→k≤N→bV k e=true→n+nE k e≤60→gB N e ((13:Int) - k) n=(true,((n+nE k e:Nat):Int))
 | _,0,_,_,_,_,h,_=>by cases h
 | 0,k+1,_,_,_,h,_,_=>absurd h (by omega)
 | N+1,k+1,e,n,h1,h2,h,h3=>by
  rw [gB]
  unfold wm
  have w1:IntKind.i64.wrap ((n:Int)+1)=((n+1:Nat):Int):=zt n (by unfold zA; omega)
  have w2:IntKind.i64.wrap ((13:Int) - ((k+1:Nat):Int)+1)=(13:Int) - (k:Int):=by rw [fD]; omega
  have d1:decide ((13:Int) - ((k+1:Nat):Int) > 12)=false:=ao (by omega)
  have hpos:=X0 h
  have d2:decide (((n+1:Nat):Int) > 60)=false:=ao (by omega)
  rw [w1,d1,d2]
  cases fe h with
  | lit v hv=>simp [ze.op,ze.l,ze.s,ze.v,cE,vW,Lf,hv,nE]
  | col s hw h2=>simp [ze.op,ze.l,ze.s,ze.v,cE,vW,Lf,hw,h2,nE,aU]
  | one op a ho ha=>
   have hn:n+1+nE k a≤60:=by simp [nE] at h3; omega
   have ka:=pd N k a (n+1) (by omega) (by omega) ha hn
   have hs:((n+nE (k+1) (.mk op (0,0,[]) [] [a]):Nat):Int)=((n+1+nE k a:Nat):Int):=by simp [nE]; omega
   rw [hs]
   push_cast at *
   rcases ho with rfl | rfl <;> simp [ze.op,ze.l,ze.s,ze.v,cE,vW,Lf,aU,nr,w2,ka]
  | two op a b ho ha hb=>
   have hn:n+1+nE k a+nE k b≤60:=by simp [nE] at h3; omega
   have ka:=pd N k a (n+1) (by omega) (by omega) ha (by omega)
   have kb:=pd N k b (n+1+nE k a) (by omega) (by omega) hb hn
   have hs:((n+nE (k+1) (.mk op (0,0,[]) [] [a,b]):Nat):Int)=((n+1+nE k a+nE k b:Nat):Int):=by simp [nE]; omega
   rw [hs]
   push_cast at *
   rcases ho with rfl | rfl | rfl | rfl | rfl | rfl <;> simp [ze.op,ze.l,ze.s,ze.v,cE,vW,Lf,aU,nr,w2,ka,kb]

theorem lC {α:Type} {p:α→Bool} {d:α}:∀ (l:List α) (k i:Nat),i < l.length→p (l.getD i d)=true→(∀ j,j < i→p (l.getD j d)=false)→aj p l k=((k+i:Nat):Int)
 | [],_,_,h,_,_=>by simp at h
 | x::r,k,0,_,hp,_=>by
  rw [aj,if_pos (by simpa using hp)]; rfl
 | x::r,k,i+1,h,hp,hj=>by
  have h0:=hj 0 (by omega)
  rw [aj,if_neg (by rw [show p x=false by simpa using h0]; simp),lC r (k+1) i (by simpa using h) (by simpa using hp) (fun j hj2=>by simpa using hj (j+1) (by omega))]
  congr 1; omega
theorem lD {α:Type} {p:α→Bool} {d:α}:∀ (l:List α) (k:Nat),(∀ j,j < l.length→p (l.getD j d)=false)→aj p l k=-1
 | [],_,_=>rfl
 | x::r,k,hj=>by
  have h0:=hj 0 (by simp)
  rw [aj,if_neg (by rw [show p x=false by simpa using h0]; simp)]
  exact lD (d:=d) r (k+1) (fun j h=>by simpa using hj (j+1) (by simpa using h))

theorem Aq {cols:List (Sem zh)} {s:zw} (hl:cols.length≤1000000):Ap cols s=some (zQ cols s,()):=by
 have hf:=lm (t:=JF) (Φ:=fun r=>r=(.int .i64 (zQ cols s),[])) 1 (fun i=>.h2 cols s (i:Int)) (fun i=>((getD cols i (zi zh)).1==s)=false) cols.length (by
  intro i hi hj
  have hv:(JF (.h2 cols s (i:Int))).val=if ((getD cols i (zi zh)).1==s)=true then some (.inr (.int .i64 i,[])) else some (.inl (.h2 cols s ((i+1:Nat):Int))):=by
   simp only [JF,JG,Fm,Tr.val,zM hi,zB hi,bd,if_true]
   rw [zt i (by unfold zA; omega)]
  rcases zG ((getD cols i (zi zh)).1==s) with h | h
  ·refine .inr ⟨by rw [h]; simp,_,ah.of (by rw [hv,if_pos h]),?_⟩
   have:=lC (p:=fun c:Sem zh=>c.1==s) (d:=zi zh) cols 0 i hi h hj
   rw [show zQ cols s=(i:Int) by unfold zQ; rw [this]; simp]
  ·exact .inl ⟨h,ap.of (by rw [hv,if_neg (by rw [h]; simp)])⟩)
 have hi:(Sf cols s).val=some (.inl (.h2 cols s ((0:Nat):Int))):=rfl
 rcases hf with ⟨h1,h2⟩ | ⟨h1,r,h2,rfl⟩
 ·have:=lD (p:=fun c:Sem zh=>c.1==s) (d:=zi zh) cols 0 h1
  rw [show zQ cols s=(-1:Int) from this]
  refine zD hi (h2.ends (ah.of (r:=(.int .i64 (-1),[])) ?_)) (by omega) rfl
  simp only [JF,JG,Fm,Tr.val,zH]
  rfl
 ·exact zD hi h2 (by omega) rfl
theorem iz {cols:List (Sem zh)} {s:zw} (hl:cols.length≤1000000):dc cols s=true:=by unfold dc; rw [Aq hl]; rfl
theorem jI {cols:List (Sem zh)} {s:zw} (hl:cols.length≤1000000):ef cols s=zQ cols s:=by unfold ef; rw [Aq hl]; rfl

theorem Nl (t u:Int):kU [t] u = !(bif t != u then t != 0 else false):=by
 unfold kU
 simp only [aj]
 rcases zG (bif t != u then t != 0 else false) with h | h <;> simp [h]
theorem rS (t t' u:Int):kU [t,t'] u = !(bif (bif t != u then t != 0 else false) then true else (bif t' != u then t' != 0 else false)):=by
 unfold kU
 simp only [aj]
 rcases zG (bif t != u then t != 0 else false) with h | h <;> rcases zG (bif t' != u then t' != 0 else false) with h' | h' <;> simp [h,h']

theorem Jh {g c} {cols:List (Sem zh)} {e:ze} (hl:cols.length≤1000000):∃ r k,ah (HY g c) k (.h5 cols ((0:Nat):Int) (e,())) r∧k≤100000000∧az r.2 [zf,zf] r.1=some (if decide (LT.lt (α:=Int) (zQ cols (ze.s e)) 0)=true then ((0:Int),(4:Int),()) else ((getD cols (toNat (zQ cols (ze.s e))) (zi zh)).2.1,(0:Int),())):=by
 have hf:=lm (t:=HY g c) (Φ:=fun r=>az r.2 [zf,zf] r.1=some (if decide (LT.lt (α:=Int) (zQ cols (ze.s e)) 0)=true then ((0:Int),(4:Int),()) else ((getD cols (toNat (zQ cols (ze.s e))) (zi zh)).2.1,(0:Int),()))) 1 (fun i=>.h5 cols (i:Int) (e,())) (fun i=>((getD cols i (zi zh)).1==ze.s e)=false) cols.length (by
  intro i hi hj
  have hv:(HY g c (.h5 cols (i:Int) (e,()))).val=if ((getD cols i (zi zh)).1==ze.s e)=true then some (.inr (.tup [.int .i64 (getD cols i (zi zh)).2.1,.int .i64 0],[])) else some (.inl (.h5 cols ((i+1:Nat):Int) (e,()))):=by
   simp only [HY,Tr.val,zM hi,zB hi,bd,if_true]
   rw [zt i (by unfold zA; omega)]
  rcases zG ((getD cols i (zi zh)).1==ze.s e) with h | h
  ·refine .inr ⟨by rw [h]; simp,_,ah.of (by rw [hv,if_pos h]),?_⟩
   have:=lC (p:=fun c:Sem zh=>c.1==ze.s e) (d:=zi zh) cols 0 i hi h hj
   rw [show zQ cols (ze.s e)=(i:Int) by unfold zQ; rw [this]; simp,if_neg (by rw [aN]; omega),bd]
   rfl
  ·exact .inl ⟨h,ap.of (by rw [hv,if_neg (by rw [h]; simp)])⟩)
 rcases hf with ⟨h1,h2⟩ | ⟨h1,r,h2,h3⟩
 ·have:=lD (p:=fun c:Sem zh=>c.1==ze.s e) (d:=zi zh) cols 0 h1
  refine ⟨(.tup [.int .i64 0,.int .i64 4],[]),_,h2.ends (ah.of ?_),by omega,?_⟩
  ·simp only [HY,Tr.val,zH]
   rfl
  ·rw [show zQ cols (ze.s e)=(-1:Int) from this]; rfl
 ·exact ⟨r,_,h2,by omega,h3⟩

theorem pz {cols:List (Sem zh)} (hl:cols.length≤1000000):∀ (N d M:Nat) (e:ze),d≤N→d≤M→bV d e=true→bL N e cols=some ((zL M e cols).1,(zL M e cols).2,())
 | _,0,_,_,_,_,h=>by cases h
 | 0,d+1,_,_,h,_,_=>absurd h (by omega)
 | _,d+1,0,_,_,h,_=>absurd h (by omega)
 | N+1,d+1,M+1,e,h1,h2,h=>by
  rw [bL,zL]
  unfold KW ve
  cases fe h with
  | lit v hv=>rfl
  | col s hw hr=>
   obtain ⟨r,k,k1,k2,k3⟩:=Jh (g:=fun x0 x1=>fv (bL N x0 x1)) (c:=fun x0 x1=>(bL N x0 x1).isSome) (cols:=cols) (e:=.mk [99,111,108] (0,0,[]) s []) hl
   refine zD (by rfl) k1 k2 (k3.trans ?_)
   have e1:aE (zL M) (aW M) cols [99,111,108] (0:Int) (0:Int) [] s [] [] 0 []=if decide (LT.lt (α:=Int) (zQ cols s) 0)=true then ((0:Int),(4:Int)) else ((getD cols (toNat (zQ cols s)) (zi zh)).2.1,(0:Int)):=rfl
   show _=some ((aE (zL M) (aW M) cols [99,111,108] (0:Int) (0:Int) [] s [] [] 0 []).1,(aE (zL M) (aW M) cols [99,111,108] (0:Int) (0:Int) [] s [] [] 0 []).2,())
   rw [e1]
   show some (if decide (LT.lt (α:=Int) (zQ cols s) 0)=true then ((0:Int),(4:Int),()) else ((getD cols (toNat (zQ cols s)) (zi zh)).2.1,(0:Int),()))=_
   rcases zG (decide (LT.lt (α:=Int) (zQ cols s) 0)) with c | c
   ·rw [if_pos c,if_pos c]
   ·rw [if_neg (by rw [c]; simp),if_neg (by rw [c]; simp)]
  | one op a ho ha=>
   have ka:=pz hl N d M a (by omega) (by omega) ha
   unfold aA cL
   generalize hg:(fun x0 x1=>fv (bL N x0 x1))=g
   generalize hc:(fun x0 x1=>(bL N x0 x1).isSome)=c
   have g1:g a cols=zL M a cols:=by rw [← hg]; show fv (bL N a cols)=_; rw [ka]; rfl
   have c1:c a cols=true:=by rw [← hc]; show (bL N a cols).isSome=_; rw [ka]; rfl
   rcases ho with rfl | rfl
   ·have e1:aE (zL M) (aW M) cols [110,111,116] (0:Int) (0:Int) [] [] [a] [a] 0 []=if ((zL M a cols).2 != 0)=true then ((0:Int),(zL M a cols).2) else if (!kU [(zL M a cols).1] 3)=true then ((0:Int),(5:Int)) else ((3:Int),(0:Int)):=rfl
    show _=some ((aE (zL M) (aW M) cols [110,111,116] (0:Int) (0:Int) [] [] [a] [a] 0 []).1,(aE (zL M) (aW M) cols [110,111,116] (0:Int) (0:Int) [] [] [a] [a] 0 []).2,())
    rw [e1,Nl]
    have e2:(yI g c (.mk [110,111,116] (0,0,[]) [] [a]) cols).val=if c (zm a) cols=true then (if ((g (zm a) cols).2 != 0)=true then some (.inr (.tup [.int .i64 0,.int .i64 (g (zm a) cols).2],[])) else if (bif (g (zm a) cols).1 != 0 then bif (g (zm a) cols).1 != 3 then true else (bif (g (zm a) cols).1 != 0 then (g (zm a) cols).1 != 3 else false) else (bif (g (zm a) cols).1 != 0 then (g (zm a) cols).1 != 3 else false))=true then some (.inr (.tup [.int .i64 0,.int .i64 5],[])) else some (.inr (.tup [.int .i64 3,.int .i64 0],[]))) else none:=rfl
    rw [e2,zn,c1,g1]
    generalize zL M a cols=t
    rcases zG (t.2 != 0) with k1 | k1 <;> rcases zG (t.1 != 0) with k2 | k2 <;> rcases zG (t.1 != 3) with k3 | k3 <;> (simp only [k1,k2,k3,zU,aq,if_true,if_false,zV,ck,dn]; rfl)
   ·have e1:aE (zL M) (aW M) cols [110,117,108,108] (0:Int) (0:Int) [] [] [a] [a] 0 []=if ((zL M a cols).2 != 0)=true then ((0:Int),(zL M a cols).2) else ((3:Int),(0:Int)):=rfl
    show _=some ((aE (zL M) (aW M) cols [110,117,108,108] (0:Int) (0:Int) [] [] [a] [a] 0 []).1,(aE (zL M) (aW M) cols [110,117,108,108] (0:Int) (0:Int) [] [] [a] [a] 0 []).2,())
    rw [e1]
    have e2:(yI g c (.mk [110,117,108,108] (0,0,[]) [] [a]) cols).val=if c (zm a) cols=true then (if ((g (zm a) cols).2 != 0)=true then some (.inr (.tup [.int .i64 0,.int .i64 (g (zm a) cols).2],[])) else some (.inr (.tup [.int .i64 3,.int .i64 0],[]))) else none:=rfl
    rw [e2,zn,c1,g1]
    generalize zL M a cols=t
    rcases zG (t.2 != 0) with k1 | k1 <;> (simp only [k1,if_true,if_false,zV]; rfl)
  | two op a b ho ha hb=>
   have ka:=pz hl N d M a (by omega) (by omega) ha
   have kb:=pz hl N d M b (by omega) (by omega) hb
   unfold aA cL
   generalize hg:(fun x0 x1=>fv (bL N x0 x1))=g
   generalize hc:(fun x0 x1=>(bL N x0 x1).isSome)=c
   have g1:g a cols=zL M a cols:=by rw [← hg]; show fv (bL N a cols)=_; rw [ka]; rfl
   have c1:c a cols=true:=by rw [← hc]; show (bL N a cols).isSome=_; rw [ka]; rfl
   have g2:g b cols=zL M b cols:=by rw [← hg]; show fv (bL N b cols)=_; rw [kb]; rfl
   have c2:c b cols=true:=by rw [← hc]; show (bL N b cols).isSome=_; rw [kb]; rfl
   rcases ho with rfl | rfl | rfl | rfl | rfl | rfl
   ·have e1:aE (zL M) (aW M) cols [97,110,100] (0:Int) (0:Int) [] [] [a,b] [a,b] 0 []=if ((zL M a cols).2 != 0)=true then ((0:Int),(zL M a cols).2) else if ((zL M b cols).2 != 0)=true then ((0:Int),(zL M b cols).2) else if (!kU [(zL M a cols).1,(zL M b cols).1] 3)=true then ((0:Int),(5:Int)) else ((3:Int),(0:Int)):=rfl
    show _=some ((aE (zL M) (aW M) cols [97,110,100] (0:Int) (0:Int) [] [] [a,b] [a,b] 0 []).1,(aE (zL M) (aW M) cols [97,110,100] (0:Int) (0:Int) [] [] [a,b] [a,b] 0 []).2,())
    rw [e1,rS]
    have e2:(yI g c (.mk [97,110,100] (0,0,[]) [] [a,b]) cols).val=if c (zm a) cols=true then (if ((g (zm a) cols).2 != 0)=true then some (.inr (.tup [.int .i64 0,.int .i64 (g (zm a) cols).2],[])) else if c (zm b) cols=true then (if ((g (zm b) cols).2 != 0)=true then some (.inr (.tup [.int .i64 0,.int .i64 (g (zm b) cols).2],[])) else if (bif (g (zm a) cols).1 != 0 then bif (g (zm a) cols).1 != 3 then true else (bif (g (zm b) cols).1 != 0 then (g (zm b) cols).1 != 3 else false) else (bif (g (zm b) cols).1 != 0 then (g (zm b) cols).1 != 3 else false))=true then some (.inr (.tup [.int .i64 0,.int .i64 5],[])) else some (.inr (.tup [.int .i64 3,.int .i64 0],[]))) else none) else none:=rfl
    rw [e2,zn,zn,c1,c2,g1,g2]
    generalize zL M a cols=t
    generalize zL M b cols=u
    rcases zG (t.2 != 0) with k1 | k1 <;> rcases zG (u.2 != 0) with k2 | k2 <;> rcases zG (t.1 != 0) with k3 | k3 <;> rcases zG (u.1 != 0) with k4 | k4 <;> rcases zG (t.1 != 3) with k5 | k5 <;> rcases zG (u.1 != 3) with k6 | k6 <;> (simp only [k1,k2,k3,k4,k5,k6,zU,aq,if_true,if_false,zV,ck,dn]; rfl)
   ·have e1:aE (zL M) (aW M) cols [111,114] (0:Int) (0:Int) [] [] [a,b] [a,b] 0 []=if ((zL M a cols).2 != 0)=true then ((0:Int),(zL M a cols).2) else if ((zL M b cols).2 != 0)=true then ((0:Int),(zL M b cols).2) else if (!kU [(zL M a cols).1,(zL M b cols).1] 3)=true then ((0:Int),(5:Int)) else ((3:Int),(0:Int)):=rfl
    show _=some ((aE (zL M) (aW M) cols [111,114] (0:Int) (0:Int) [] [] [a,b] [a,b] 0 []).1,(aE (zL M) (aW M) cols [111,114] (0:Int) (0:Int) [] [] [a,b] [a,b] 0 []).2,())
    rw [e1,rS]
    have e2:(yI g c (.mk [111,114] (0,0,[]) [] [a,b]) cols).val=if c (zm a) cols=true then (if ((g (zm a) cols).2 != 0)=true then some (.inr (.tup [.int .i64 0,.int .i64 (g (zm a) cols).2],[])) else if c (zm b) cols=true then (if ((g (zm b) cols).2 != 0)=true then some (.inr (.tup [.int .i64 0,.int .i64 (g (zm b) cols).2],[])) else if (bif (g (zm a) cols).1 != 0 then bif (g (zm a) cols).1 != 3 then true else (bif (g (zm b) cols).1 != 0 then (g (zm b) cols).1 != 3 else false) else (bif (g (zm b) cols).1 != 0 then (g (zm b) cols).1 != 3 else false))=true then some (.inr (.tup [.int .i64 0,.int .i64 5],[])) else some (.inr (.tup [.int .i64 3,.int .i64 0],[]))) else none) else none:=rfl
    rw [e2,zn,zn,c1,c2,g1,g2]
    generalize zL M a cols=t
    generalize zL M b cols=u
    rcases zG (t.2 != 0) with k1 | k1 <;> rcases zG (u.2 != 0) with k2 | k2 <;> rcases zG (t.1 != 0) with k3 | k3 <;> rcases zG (u.1 != 0) with k4 | k4 <;> rcases zG (t.1 != 3) with k5 | k5 <;> rcases zG (u.1 != 3) with k6 | k6 <;> (simp only [k1,k2,k3,k4,k5,k6,zU,aq,if_true,if_false,zV,ck,dn]; rfl)
   ·have e1:aE (zL M) (aW M) cols [61] (0:Int) (0:Int) [] [] [a,b] [a,b] 0 []=if ((zL M a cols).2 != 0)=true then ((0:Int),(zL M a cols).2) else if ((zL M b cols).2 != 0)=true then ((0:Int),(zL M b cols).2) else if (!bif (zL M a cols).1==(zL M b cols).1 then true else bif (zL M a cols).1==0 then true else (zL M b cols).1==0)=true then ((0:Int),(5:Int)) else ((3:Int),(0:Int)):=rfl
    show _=some ((aE (zL M) (aW M) cols [61] (0:Int) (0:Int) [] [] [a,b] [a,b] 0 []).1,(aE (zL M) (aW M) cols [61] (0:Int) (0:Int) [] [] [a,b] [a,b] 0 []).2,())
    rw [e1]
    have e2:(yI g c (.mk [61] (0,0,[]) [] [a,b]) cols).val=if c (zm a) cols=true then (if ((g (zm a) cols).2 != 0)=true then some (.inr (.tup [.int .i64 0,.int .i64 (g (zm a) cols).2],[])) else if c (zm b) cols=true then (if ((g (zm b) cols).2 != 0)=true then some (.inr (.tup [.int .i64 0,.int .i64 (g (zm b) cols).2],[])) else if (bif (g (zm a) cols).1 != 0 then bif (g (zm b) cols).1 != 0 then (g (zm a) cols).1 != (g (zm b) cols).1 else false else false)=true then some (.inr (.tup [.int .i64 0,.int .i64 5],[])) else some (.inr (.tup [.int .i64 3,.int .i64 0],[]))) else none) else none:=rfl
    rw [e2,zn,zn,c1,c2,g1,g2]
    generalize zL M a cols=t
    generalize zL M b cols=u
    simp only [bne]
    rcases zG (t.2==0) with k1 | k1 <;> rcases zG (u.2==0) with k2 | k2 <;> rcases zG (t.1==0) with k3 | k3 <;> rcases zG (u.1==0) with k4 | k4 <;> rcases zG (t.1==u.1) with k5 | k5 <;> (simp only [k1,k2,k3,k4,k5,zU,aq,if_true,if_false,zV,ck,dn]; rfl)
   ·have e1:aE (zL M) (aW M) cols [60] (0:Int) (0:Int) [] [] [a,b] [a,b] 0 []=if ((zL M a cols).2 != 0)=true then ((0:Int),(zL M a cols).2) else if ((zL M b cols).2 != 0)=true then ((0:Int),(zL M b cols).2) else if (!bif (zL M a cols).1==(zL M b cols).1 then true else bif (zL M a cols).1==0 then true else (zL M b cols).1==0)=true then ((0:Int),(5:Int)) else ((3:Int),(0:Int)):=rfl
    show _=some ((aE (zL M) (aW M) cols [60] (0:Int) (0:Int) [] [] [a,b] [a,b] 0 []).1,(aE (zL M) (aW M) cols [60] (0:Int) (0:Int) [] [] [a,b] [a,b] 0 []).2,())
    rw [e1]
    have e2:(yI g c (.mk [60] (0,0,[]) [] [a,b]) cols).val=if c (zm a) cols=true then (if ((g (zm a) cols).2 != 0)=true then some (.inr (.tup [.int .i64 0,.int .i64 (g (zm a) cols).2],[])) else if c (zm b) cols=true then (if ((g (zm b) cols).2 != 0)=true then some (.inr (.tup [.int .i64 0,.int .i64 (g (zm b) cols).2],[])) else if (bif (g (zm a) cols).1 != 0 then bif (g (zm b) cols).1 != 0 then (g (zm a) cols).1 != (g (zm b) cols).1 else false else false)=true then some (.inr (.tup [.int .i64 0,.int .i64 5],[])) else some (.inr (.tup [.int .i64 3,.int .i64 0],[]))) else none) else none:=rfl
    rw [e2,zn,zn,c1,c2,g1,g2]
    generalize zL M a cols=t
    generalize zL M b cols=u
    simp only [bne]
    rcases zG (t.2==0) with k1 | k1 <;> rcases zG (u.2==0) with k2 | k2 <;> rcases zG (t.1==0) with k3 | k3 <;> rcases zG (u.1==0) with k4 | k4 <;> rcases zG (t.1==u.1) with k5 | k5 <;> (simp only [k1,k2,k3,k4,k5,zU,aq,if_true,if_false,zV,ck,dn]; rfl)
   ·have e1:aE (zL M) (aW M) cols [43] (0:Int) (0:Int) [] [] [a,b] [a,b] 0 []=if ((zL M a cols).2 != 0)=true then ((0:Int),(zL M a cols).2) else if ((zL M b cols).2 != 0)=true then ((0:Int),(zL M b cols).2) else if (!kU [(zL M a cols).1,(zL M b cols).1] 1)=true then ((0:Int),(5:Int)) else ((1:Int),(0:Int)):=rfl
    show _=some ((aE (zL M) (aW M) cols [43] (0:Int) (0:Int) [] [] [a,b] [a,b] 0 []).1,(aE (zL M) (aW M) cols [43] (0:Int) (0:Int) [] [] [a,b] [a,b] 0 []).2,())
    rw [e1,rS]
    have e2:(yI g c (.mk [43] (0,0,[]) [] [a,b]) cols).val=if c (zm a) cols=true then (if ((g (zm a) cols).2 != 0)=true then some (.inr (.tup [.int .i64 0,.int .i64 (g (zm a) cols).2],[])) else if c (zm b) cols=true then (if ((g (zm b) cols).2 != 0)=true then some (.inr (.tup [.int .i64 0,.int .i64 (g (zm b) cols).2],[])) else if (bif (g (zm a) cols).1 != 0 then bif (g (zm a) cols).1 != 1 then true else (bif (g (zm b) cols).1 != 0 then (g (zm b) cols).1 != 1 else false) else (bif (g (zm b) cols).1 != 0 then (g (zm b) cols).1 != 1 else false))=true then some (.inr (.tup [.int .i64 0,.int .i64 5],[])) else some (.inr (.tup [.int .i64 1,.int .i64 0],[]))) else none) else none:=rfl
    rw [e2,zn,zn,c1,c2,g1,g2]
    generalize zL M a cols=t
    generalize zL M b cols=u
    rcases zG (t.2 != 0) with k1 | k1 <;> rcases zG (u.2 != 0) with k2 | k2 <;> rcases zG (t.1 != 0) with k3 | k3 <;> rcases zG (u.1 != 0) with k4 | k4 <;> rcases zG (t.1 != 1) with k5 | k5 <;> rcases zG (u.1 != 1) with k6 | k6 <;> (simp only [k1,k2,k3,k4,k5,k6,zU,aq,if_true,if_false,zV,ck,dn]; rfl)
   ·have e1:aE (zL M) (aW M) cols [45] (0:Int) (0:Int) [] [] [a,b] [a,b] 0 []=if ((zL M a cols).2 != 0)=true then ((0:Int),(zL M a cols).2) else if ((zL M b cols).2 != 0)=true then ((0:Int),(zL M b cols).2) else if (!kU [(zL M a cols).1,(zL M b cols).1] 1)=true then ((0:Int),(5:Int)) else ((1:Int),(0:Int)):=rfl
    show _=some ((aE (zL M) (aW M) cols [45] (0:Int) (0:Int) [] [] [a,b] [a,b] 0 []).1,(aE (zL M) (aW M) cols [45] (0:Int) (0:Int) [] [] [a,b] [a,b] 0 []).2,())
    rw [e1,rS]
    have e2:(yI g c (.mk [45] (0,0,[]) [] [a,b]) cols).val=if c (zm a) cols=true then (if ((g (zm a) cols).2 != 0)=true then some (.inr (.tup [.int .i64 0,.int .i64 (g (zm a) cols).2],[])) else if c (zm b) cols=true then (if ((g (zm b) cols).2 != 0)=true then some (.inr (.tup [.int .i64 0,.int .i64 (g (zm b) cols).2],[])) else if (bif (g (zm a) cols).1 != 0 then bif (g (zm a) cols).1 != 1 then true else (bif (g (zm b) cols).1 != 0 then (g (zm b) cols).1 != 1 else false) else (bif (g (zm b) cols).1 != 0 then (g (zm b) cols).1 != 1 else false))=true then some (.inr (.tup [.int .i64 0,.int .i64 5],[])) else some (.inr (.tup [.int .i64 1,.int .i64 0],[]))) else none) else none:=rfl
    rw [e2,zn,zn,c1,c2,g1,g2]
    generalize zL M a cols=t
    generalize zL M b cols=u
    rcases zG (t.2 != 0) with k1 | k1 <;> rcases zG (u.2 != 0) with k2 | k2 <;> rcases zG (t.1 != 0) with k3 | k3 <;> rcases zG (u.1 != 0) with k4 | k4 <;> rcases zG (t.1 != 1) with k5 | k5 <;> rcases zG (u.1 != 1) with k6 | k6 <;> (simp only [k1,k2,k3,k4,k5,k6,zU,aq,if_true,if_false,zV,ck,dn]; rfl)

theorem fX:kr (0,0,[]):=⟨by decide,by decide,by simp⟩
theorem lq (b:Bool):kr (vd b):=by cases b <;> exact ⟨by decide,by decide,by simp [vd]⟩
theorem Ng:kr (3,0,[]):=lq false
theorem Nh:kr (3,1,[]):=lq true
theorem RD (a b:Sem zg):kr (BM a b):=by
 unfold BM; rw [l7,kj,kk]; split; exact Ng; split; exact Nh; exact fX
theorem WR (a b:Sem zg):kr (QI a b):=by
 unfold QI; rw [l7,kj,kk]; split; exact Nh; split; exact Ng; exact fX
theorem RF (a:Sem zg):kr (wq a):=by
 unfold wq; rw [l7,kj,kk]; split; exact Ng; split; exact Nh; exact fX
theorem WQ (a b:Sem zg):kr (lh a b):=by
 unfold lh; split; exact fX; rw [iD]; exact lq _
theorem Ni (a b:Sem zg):kr (qF a b):=by
 unfold qF; split; exact fX; rw [iD]; exact lq _
theorem Ia (a:Sem zg):kr (iK a):=by
 unfold iK; rw [iD]; exact lq _
theorem FQ (n:Int):kr (1,IntKind.i64.wrap n,[]):=by
 refine ⟨?_,?_,by simp⟩
 ·show (-9223372036854775808:Int)≤IntKind.i64.wrap n
  rw [fD]; omega
 ·show IntKind.i64.wrap n≤(9223372036854775807:Int)
  rw [fD]; omega
theorem Nj (a b:Sem zg):kr (qG a b):=by
 unfold qG; split; exact fX; split; exact fX; exact FQ _
theorem LA (a b:Sem zg):kr (ll a b):=by
 unfold ll; split; exact fX; split; exact fX; exact FQ _

def rJ (cols:List (Sem zh)) (row:List (Sem zg)) (s:zw):Sem zg:=if (bif decide (zQ cols s < 0) then true else decide (zQ cols s ≥ (↑row.length:Int)))=true then (0,0,[]) else row.getD (toNat (zQ cols s)) (zi zg)

theorem Jf {g c} {cols:List (Sem zh)} {row:List (Sem zg)} {e:ze} (hl:cols.length≤1000000):∃ r k,ah (wc g c) k (.h6 cols row ((0:Nat):Int) (e,()) ((0,0,[]),())) r∧k≤100000000∧az r.2 [zg] r.1=some (rJ cols row (ze.s e),()):=by
 have hf:=lm (t:=wc g c) (Φ:=fun r=>az r.2 [zg] r.1=some (rJ cols row (ze.s e),())) 1 (fun i=>.h6 cols row (i:Int) (e,()) ((0,0,[]),())) (fun i=>((getD cols i (zi zh)).1==ze.s e)=false) cols.length (by
  intro i hi hj
  have hv:(wc g c (.h6 cols row (i:Int) (e,()) ((0,0,[]),()))).val=if ((getD cols i (zi zh)).1==ze.s e)=true then (if decide ((i:Int) < (row.length:Int))=true then (if zR (i:Int) row.length=true then some (.inr (.agg [.int .i64 (getD row i (zi zg)).1,.int .i64 (getD row i (zi zg)).2.1,.str (getD row i (zi zg)).2.2],[])) else none) else some (.inr (.agg [.int .i64 0,.int .i64 0,.str []],[]))) else some (.inl (.h6 cols row ((i+1:Nat):Int) (e,()) ((0,0,[]),()))):=by
   simp only [wc,Tr.val,zM hi,zB hi,bd,if_true]
   rw [zt i (by unfold zA; omega)]
  rcases zG ((getD cols i (zi zh)).1==ze.s e) with h | h
  ·have hp:=lC (p:=fun c:Sem zh=>c.1==ze.s e) (d:=zi zh) cols 0 i hi h hj
   have hp:zQ cols (ze.s e)=(i:Int):=by unfold zQ; rw [hp]; simp
   by_cases hr:i < row.length
   ·refine .inr ⟨by rw [h]; simp,_,ah.of (by rw [hv,if_pos h,if_pos (zM hr),if_pos (zB hr)]),?_⟩
    unfold rJ
    rw [hp,if_neg (by rw [ao (by omega:¬ (i:Int) < 0),ao (by omega:¬ (i:Int) ≥ (row.length:Int))]; simp),bd]
    rfl
   ·refine .inr ⟨by rw [h]; simp,_,ah.of (by rw [hv,if_pos h,if_neg (by rw [aN]; omega)]),?_⟩
    unfold rJ
    rw [hp,if_pos (by rw [ao (by omega:¬ (i:Int) < 0),zu (by omega:(i:Int) ≥ (row.length:Int))]; rfl)]
    rfl
  ·exact .inl ⟨h,ap.of (by rw [hv,if_neg (by rw [h]; simp)])⟩)
 rcases hf with ⟨h1,h2⟩ | ⟨h1,r,h2,h3⟩
 ·have hp:=lD (p:=fun c:Sem zh=>c.1==ze.s e) (d:=zi zh) cols 0 h1
  refine ⟨(.agg [.int .i64 0,.int .i64 0,.str []],[]),_,h2.ends (ah.of ?_),by omega,?_⟩
  ·simp only [wc,Tr.val,zH]
   rfl
  ·unfold rJ
   rw [show zQ cols (ze.s e)=(-1:Int) from hp]; rfl
 ·exact ⟨r,_,h2,by omega,h3⟩

theorem RE {cols:List (Sem zh)} {row:List (Sem zg)} {s:zw} (hr:∀ v∈row,kr v):kr (rJ cols row s):=by
 unfold rJ
 split
 ·exact fX
 ·by_cases h:toNat (zQ cols s) < row.length
  ·exact hr _ (bG h)
  ·rw [aP,dO (by omega)]
   exact fX

theorem pt {cols:List (Sem zh)} {row:List (Sem zg)} (hl:cols.length≤1000000) (hr:∀ v∈row,kr v):∀ (N d M:Nat) (e:ze),d≤N→d≤M→bV d e=true→mX e→bU N e cols row=some (cS M cols row e,())∧kr (cS M cols row e)
 | _,0,_,_,_,_,h,_=>by cases h
 | 0,d+1,_,_,h,_,_,_=>absurd h (by omega)
 | _,d+1,0,_,_,h,_,_=>absurd h (by omega)
 | N+1,d+1,M+1,e,h1,h2,h,hw=>by
  rw [bU,cS]
  unfold KU
  cases fe h with
  | lit v hv=>
   rw [mX] at hw
   exact ⟨rfl,hw.1⟩
  | col s hw2 hr2=>
   obtain ⟨r,k,k1,k2,k3⟩:=Jf (g:=fun x0 x1 x2=>gf (bU N x0 x1 x2)) (c:=fun x0 x1 x2=>(bU N x0 x1 x2).isSome) (cols:=cols) (row:=row) (e:=.mk [99,111,108] (0,0,[]) s []) hl
   exact ⟨zD (by rfl) k1 k2 k3,RE hr⟩
  | one op a ho ha=>
   rw [mX,jN] at hw
   obtain ⟨ka,va⟩:=pt hl hr N d M a (by omega) (by omega) ha hw.2.2.1
   unfold aA cL
   generalize hg:(fun x0 x1 x2=>gf (bU N x0 x1 x2))=g
   generalize hc:(fun x0 x1 x2=>(bU N x0 x1 x2).isSome)=c
   have g1:g a cols row=cS M cols row a:=by rw [← hg]; show gf (bU N a cols row)=_; rw [ka]; rfl
   have c1:c a cols row=true:=by rw [← hc]; show (bU N a cols row).isSome=_; rw [ka]; rfl
   rcases ho with rfl | rfl
   ·have e1:pZ (cS M) cols row (.mk [110,111,116] (0,0,[]) [] [a])=wq (cS M cols row a):=rfl
    have e2:(nR g c (.mk [110,111,116] (0,0,[]) [] [a]) cols row).val=if c (zm a) cols row=true then (if Ez (g (zm a) cols row)=true then some (.inr (.agg [.int .i64 (C4 (g (zm a) cols row)).1,.int .i64 (C4 (g (zm a) cols row)).2.1,.str (C4 (g (zm a) cols row)).2.2],[])) else none) else none:=rfl
    rw [e1,e2,zn,c1,g1]
    generalize cS M cols row a=x at *
    rw [P1,SM]
    exact ⟨rfl,RF _⟩
   ·have e1:pZ (cS M) cols row (.mk [110,117,108,108] (0,0,[]) [] [a])=iK (cS M cols row a):=rfl
    have e2:(nR g c (.mk [110,117,108,108] (0,0,[]) [] [a]) cols row).val=if c (zm a) cols row=true then (if kY (g (zm a) cols row)=true then (if (!qy (g (zm a) cols row))=true then some (.inr (.agg [.int .i64 (aS true).1,.int .i64 (aS true).2.1,.str (aS true).2.2],[])) else if kc ((g (zm a) cols row).1==0)=true then some (.inr (.agg [.int .i64 (aS ((g (zm a) cols row).1==0)).1,.int .i64 (aS ((g (zm a) cols row).1==0)).2.1,.str (aS ((g (zm a) cols row).1==0)).2.2],[])) else none) else none) else none:=rfl
    rw [e1,e2,zn,c1,g1]
    generalize cS M cols row a=x at *
    refine ⟨?_,Ia _⟩
    rw [j9 va.2.2,mH va.2.2,mI,gx,gx]
    unfold iK aM
    rw [iD]
    cases ce x
    ·rfl
    ·rfl
  | two op a b ho ha hb=>
   rw [mX,jN,jN] at hw
   obtain ⟨ka,va⟩:=pt hl hr N d M a (by omega) (by omega) ha hw.2.2.1
   obtain ⟨kb,vb⟩:=pt hl hr N d M b (by omega) (by omega) hb hw.2.2.2.1
   unfold aA cL
   generalize hg:(fun x0 x1 x2=>gf (bU N x0 x1 x2))=g
   generalize hc:(fun x0 x1 x2=>(bU N x0 x1 x2).isSome)=c
   have g1:g a cols row=cS M cols row a:=by rw [← hg]; show gf (bU N a cols row)=_; rw [ka]; rfl
   have c1:c a cols row=true:=by rw [← hc]; show (bU N a cols row).isSome=_; rw [ka]; rfl
   have g2:g b cols row=cS M cols row b:=by rw [← hg]; show gf (bU N b cols row)=_; rw [kb]; rfl
   have c2:c b cols row=true:=by rw [← hc]; show (bU N b cols row).isSome=_; rw [kb]; rfl
   rcases ho with rfl | rfl | rfl | rfl | rfl | rfl
   ·have e1:pZ (cS M) cols row (.mk [97,110,100] (0,0,[]) [] [a,b])=BM (cS M cols row a) (cS M cols row b):=rfl
    have e2:(nR g c (.mk [97,110,100] (0,0,[]) [] [a,b]) cols row).val=if c (zm a) cols row=true then (if c (zm b) cols row=true then (if Ew (g (zm a) cols row) (g (zm b) cols row)=true then some (.inr (.agg [.int .i64 (C2 (g (zm a) cols row) (g (zm b) cols row)).1,.int .i64 (C2 (g (zm a) cols row) (g (zm b) cols row)).2.1,.str (C2 (g (zm a) cols row) (g (zm b) cols row)).2.2],[])) else none) else none) else none:=rfl
    rw [e1,e2,zn,zn,c1,c2,g1,g2]
    generalize cS M cols row a=x at *
    generalize cS M cols row b=y at *
    rw [PZ,SL]
    exact ⟨rfl,RD _ _⟩
   ·have e1:pZ (cS M) cols row (.mk [111,114] (0,0,[]) [] [a,b])=QI (cS M cols row a) (cS M cols row b):=rfl
    have e2:(nR g c (.mk [111,114] (0,0,[]) [] [a,b]) cols row).val=if c (zm a) cols row=true then (if c (zm b) cols row=true then (if KS (g (zm a) cols row) (g (zm b) cols row)=true then some (.inr (.agg [.int .i64 (Mv (g (zm a) cols row) (g (zm b) cols row)).1,.int .i64 (Mv (g (zm a) cols row) (g (zm b) cols row)).2.1,.str (Mv (g (zm a) cols row) (g (zm b) cols row)).2.2],[])) else none) else none) else none:=rfl
    rw [e1,e2,zn,zn,c1,c2,g1,g2]
    generalize cS M cols row a=x at *
    generalize cS M cols row b=y at *
    rw [SN,Ym]
    exact ⟨rfl,WR _ _⟩
   ·have e1:pZ (cS M) cols row (.mk [61] (0,0,[]) [] [a,b])=lh (cS M cols row a) (cS M cols row b):=rfl
    have e2:(nR g c (.mk [61] (0,0,[]) [] [a,b]) cols row).val=if c (zm a) cols row=true then (if c (zm b) cols row=true then (if sO (g (zm a) cols row) (g (zm b) cols row)=true then some (.inr (.agg [.int .i64 (pk (g (zm a) cols row) (g (zm b) cols row)).1,.int .i64 (pk (g (zm a) cols row) (g (zm b) cols row)).2.1,.str (pk (g (zm a) cols row) (g (zm b) cols row)).2.2],[])) else none) else none) else none:=rfl
    rw [e1,e2,zn,zn,c1,c2,g1,g2]
    generalize cS M cols row a=x at *
    generalize cS M cols row b=y at *
    rw [Jc va.2.2 vb.2.2,Ms va.2.2 vb.2.2]
    exact ⟨rfl,WQ _ _⟩
   ·have e1:pZ (cS M) cols row (.mk [60] (0,0,[]) [] [a,b])=qF (cS M cols row a) (cS M cols row b):=rfl
    have e2:(nR g c (.mk [60] (0,0,[]) [] [a,b]) cols row).val=if c (zm a) cols row=true then (if c (zm b) cols row=true then (if wI (g (zm a) cols row) (g (zm b) cols row)=true then some (.inr (.agg [.int .i64 (uP (g (zm a) cols row) (g (zm b) cols row)).1,.int .i64 (uP (g (zm a) cols row) (g (zm b) cols row)).2.1,.str (uP (g (zm a) cols row) (g (zm b) cols row)).2.2],[])) else none) else none) else none:=rfl
    rw [e1,e2,zn,zn,c1,c2,g1,g2]
    generalize cS M cols row a=x at *
    generalize cS M cols row b=y at *
    rw [Mt va.2.2 vb.2.2,P0 va.2.2 vb.2.2]
    exact ⟨rfl,Ni _ _⟩
   ·have e1:pZ (cS M) cols row (.mk [43] (0,0,[]) [] [a,b])=qG (cS M cols row a) (cS M cols row b):=rfl
    have e2:(nR g c (.mk [43] (0,0,[]) [] [a,b]) cols row).val=if c (zm a) cols row=true then (if c (zm b) cols row=true then (if wJ (g (zm a) cols row) (g (zm b) cols row)=true then some (.inr (.agg [.int .i64 (uQ (g (zm a) cols row) (g (zm b) cols row)).1,.int .i64 (uQ (g (zm a) cols row) (g (zm b) cols row)).2.1,.str (uQ (g (zm a) cols row) (g (zm b) cols row)).2.2],[])) else none) else none) else none:=rfl
    rw [e1,e2,zn,zn,c1,c2,g1,g2]
    generalize cS M cols row a=x at *
    generalize cS M cols row b=y at *
    rw [Mx va vb,P2 va vb]
    exact ⟨rfl,Nj _ _⟩
   ·have e1:pZ (cS M) cols row (.mk [45] (0,0,[]) [] [a,b])=ll (cS M cols row a) (cS M cols row b):=rfl
    have e2:(nR g c (.mk [45] (0,0,[]) [] [a,b]) cols row).val=if c (zm a) cols row=true then (if c (zm b) cols row=true then (if sQ (g (zm a) cols row) (g (zm b) cols row)=true then some (.inr (.agg [.int .i64 (pl (g (zm a) cols row) (g (zm b) cols row)).1,.int .i64 (pl (g (zm a) cols row) (g (zm b) cols row)).2.1,.str (pl (g (zm a) cols row) (g (zm b) cols row)).2.2],[])) else none) else none) else none:=rfl
    rw [e1,e2,zn,zn,c1,c2,g1,g2]
    generalize cS M cols row a=x at *
    generalize cS M cols row b=y at *
    rw [Jd va vb,Mu va vb]
    exact ⟨rfl,LA _ _⟩
end Cad
