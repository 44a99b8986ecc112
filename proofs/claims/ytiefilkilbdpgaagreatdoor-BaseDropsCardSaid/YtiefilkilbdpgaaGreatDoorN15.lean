/- Texts: an octet replaced by two, two by one; tokens. A DELETE may be where the SELECT of the same may be. Few tables, few statements. Few bases. -/
import Derived.Test.YtiefilkilbdpgaaGreatDoorN13
import Derived.Test.YtiefilkilbdpgaaGreatDoorN14
import Derived.Test.YtiefilkilbdpgaaGreatDoorN12
namespace Cad
open Go Go.Proofs
open Int (toNat)
open List (getD)
open List (length)

theorem pk (c:UInt8) (s old:zp):Lib.index (c::s) old=if old.isPrefixOf (c::s)=true then 0 else if Lib.index s old=-1 then -1 else Lib.index s old+1:=by
 rw [Lib.index]; simp only [eH]

theorem sb {s old new:zp} (hne:(old==new)=false) (h:Lib.index s old=-1):Lib.replaceAll s old new=s:=by
 unfold Lib.replaceAll Lib.replace Lib.replaceNum
 rw [hne,if_pos (Or.inl (by decide)),Lib.count_miss h]
 rfl

theorem xf {s old new:zp} {i:Nat} (h0:old≠[]) (hne:(old==new)=false) (h:Lib.index s old=i):Lib.replaceAll s old new=s.take i++new++Lib.replaceAll (s.drop (i+old.length)) old new:=by
 unfold Lib.replaceAll Lib.replace Lib.replaceNum
 rw [hne,if_pos (Or.inl (by decide)),if_pos (Or.inl (by decide)),Lib.count_hit h0 h,oB 1]
 exact Lib.replaceK_hit old new _ s i h

theorem xg {old new:zp} (h0:old≠[]) (hne:(old==new)=false):Lib.replaceAll [] old new=[]:=by
 refine sb hne ?_
 cases old with
 | nil=>exact absurd rfl h0
 | cons a l=>rfl

theorem Ez {c:UInt8} {s old new:zp} (h0:old≠[]) (hne:(old==new)=false) (hp:old.isPrefixOf (c::s)=true):Lib.replaceAll (c::s) old new=new++Lib.replaceAll ((c::s).drop old.length) old new:=by
 have:=xf (i:=0) h0 hne (s:=c::s) (by rw [pk,if_pos hp]; rfl)
 simpa using this

theorem AM {c:UInt8} {s old new:zp} (h0:old≠[]) (hne:(old==new)=false) (hp:old.isPrefixOf (c::s)=false):Lib.replaceAll (c::s) old new=c::Lib.replaceAll s old new:=by
 by_cases h:Lib.index s old=-1
 ·rw [sb hne h,sb hne (by rw [pk,if_neg (by simp [hp]),if_pos h])]
 ·obtain ⟨i,hi⟩:∃ i:Nat,Lib.index s old=i:=⟨(Lib.index s old).toNat,by have:=Lib.index_ge s old; omega⟩
  rw [xf h0 hne hi,xf (i:=i+1) h0 hne (by rw [pk,if_neg (by simp [hp]),if_neg h,hi]; simp)]
  simp [Nat.add_right_comm]

theorem NQ {c a:UInt8} {r l:zp} (h:c≠a):(a::l).isPrefixOf (c::r)=false:=by
 rw [List.isPrefixOf,jr.2 (Ne.symm h)]
 rfl

def pT:zp→zp
 | []=>[]
 | c::r=>if c=39 then 39::39::pT r else c::pT r

theorem xe:∀ s:zp,Lib.replaceAll s [39] [39,39]=pT s
 | []=>xg (by simp) rfl
 | c::r=>by
  rw [pT]
  split
  ·rename_i h
   subst h
   rw [Ez (by simp) rfl (by simp)]
   simp [xe r]
  ·rename_i h
   rw [AM (by simp) rfl (NQ h),xe r]

def dN:zp→Option (zp×Nat)
 | []=>none
 | [c]=>if c=39 then some ([],1) else none
 | c::d::r=>if c=39 then (if d=39 then (dN r).map fun x=>(39::x.1,x.2+2) else some ([],1)) else (dN (d::r)).map fun x=>(c::x.1,x.2+1)

theorem sg:∀ (n:Nat) (s t:zp) (k:Nat),s.length≤n→dN s=some (t,k)→1≤k∧k≤s.length∧Lib.replaceAll (s.take (k - 1)) [39,39] [39]=t
 | _,[],_,_,_,h=>by simp [dN] at h
 | _,[c],t,k,_,h=>by
  rw [dN] at h
  split at h
  ·simp at h
   obtain ⟨rfl,rfl⟩:=h
   exact ⟨by simp,by simp,by simpa using xg (by simp) rfl⟩
  ·simp at h
 | 0,_::_::_,_,_,hn,_=>by simp at hn
 | n+1,c::d::r,t,k,hn,h=>by
  rw [dN] at h
  split at h
  ·rename_i hc
   split at h
   ·rename_i hd
    simp only [dt] at h
    obtain ⟨⟨t',k'⟩,h1,h2⟩:=h
    simp only [bv] at h2
    obtain ⟨rfl,rfl⟩:=h2
    obtain ⟨a1,a2,a3⟩:=sg n r t' k' (by simp at hn; omega) h1
    refine ⟨by omega,by simp; omega,?_⟩
    subst hc; subst hd
    rw [show k'+2 - 1=(k' - 1)+2 by omega,List.take_succ_cons,List.take_succ_cons,Ez (by simp) rfl (by simp)]
    simp [a3]
   ·simp at h
    obtain ⟨rfl,rfl⟩:=h
    exact ⟨by simp,by simp,by simpa using xg (by simp) rfl⟩
  ·rename_i hc
   simp only [dt] at h
   obtain ⟨⟨t',k'⟩,h1,h2⟩:=h
   simp only [bv] at h2
   obtain ⟨rfl,rfl⟩:=h2
   obtain ⟨a1,a2,a3⟩:=sg n (d::r) t' k' (by simp at hn ⊢; omega) h1
   refine ⟨by omega,by simp at a2 ⊢; omega,?_⟩
   rw [show k'+1 - 1=(k' - 1)+1 by omega,List.take_succ_cons,AM (by simp) rfl (NQ hc),a3]
theorem AR {c:UInt8} (hc:c≠39):∀ r:zp,dN (c::r)=(dN r).map fun x=>(c::x.1,x.2+1)
 | []=>by simp [dN,hc]
 | d::r=>by rw [dN,if_neg hc]
theorem EL (r:zp):dN (39::39::r)=(dN r).map fun x=>(39::x.1,x.2+2):=by
 rw [dN,if_pos rfl,if_pos rfl]
theorem xw:∀ r:zp,r.head?≠some 39→dN (39::r)=some ([],1)
 | [],_=>by rw [dN,if_pos rfl]
 | d::r,h=>by rw [dN,if_pos rfl,if_neg (by simpa using h)]

theorem wm (s:zp) {i:Nat} (h:i < s.length):s.getD ((i:Int).toNat) 0=s[i]:=by
 rw [aQ,aH,zJ h,bM]
theorem MA {c:UInt8}:((c.toNat:Int)==39)=true↔c=39:=by
 rw [eH]
 constructor
 ·intro h
  exact UInt8.toNat_inj.1 (by show c.toNat=39; omega)
 ·rintro rfl; rfl

theorem nd:∀ (n:Nat) (s:zp) (i:Nat) (a:Int) (b:zp),1≤i→i≤s.length→s.length+2≤n+i→s.length≤1000000000→
  ed n s (i:Int) a b=(match dN (s.drop i) with
   | none=>((0,[]),0)
   | some x=>((3,Lib.replaceAll (List.take (i+x.2 - 2) (List.drop 1 s)) [39,39] [39]),((i+x.2:Nat):Int)))
 | 0,s,i,a,b,h1,h2,h3,h4=>by omega
 | n + 1,s,i,a,b,h1,h2,h3,h4=>by
  rw [ed]
  by_cases hi:i < s.length
  ·rw [if_pos (aq (show (i:Int) < (s.length:Int) by omega)),wm s hi,nA i (by omega),cX hi]
   by_cases hq:s[i]=39
   ·rw [if_neg (by simp [bne,MA.2 hq]),hq]
    by_cases hj:i+1 < s.length
    ·rw [cX hj,wm s hj,aq (show ((i+1:Nat):Int) < (s.length:Int) by omega)]
     by_cases hq2:s[i+1]=39
     ·rw [if_pos (by simpa using MA.2 hq2),nA (i+1) (by omega),nd n s (i+1+1) a b (by omega) (by omega) (by omega) h4,hq2,EL]
      cases dN (s.drop (i+1+1)) with
      | none=>rfl
      | some x=>
       simp only [pG]
       rw [show i+1+1+x.2=i+(x.2+2) by omega]
     ·rw [if_neg (by simpa using fun h=>hq2 (MA.1 (by simpa using h))),xw _ (by rw [List.head?_cons]; exact fun h=>hq2 (Option.some.inj h))]
      simp
    ·rw [yB (by omega:s.length≤i+1),cx (show ¬ ((i+1:Nat):Int) < (s.length:Int) by omega),xw _ (by simp)]
     simp
   ·rw [if_pos (by simpa [bne] using fun h=>hq (MA.1 (by simpa using h))),AR hq,nd n s (i+1) a b (by omega) (by omega) (by omega) h4]
    cases dN (s.drop (i+1)) with
    | none=>rfl
    | some x=>
     simp only [pG]
     rw [show i+1+x.2=i+(x.2+1) by omega]
  ·rw [if_neg (by simp; omega),yB (by omega)]
   rfl

def fE (c:UInt8) (r:zp):Sem eA×Nat:=
 if aK c.toNat=true then ((1,(c::r).take (fF cm r+1)),fF cm r+1)
 else if zV c.toNat=true then ((2,(c::r).take (fF zV r+1)),fF zV r+1)
 else if c=39 then (match dN r with | none=>((0,[]),0) | some x=>((3,x.1),x.2+1))
 else ((4,[c]),1)

theorem rK (c:UInt8) (r:zp) (hl:(c::r).length≤1000000000):bh (c::r)=((fE c r).1,((fE c r).2:Int)):=by
 have e1:aA aK cm (c::r)=if aK c.toNat=true then fF cm r+1 else 0:=rfl
 have e2:aA zV zV (c::r)=if zV c.toNat=true then fF zV r+1 else 0:=rfl
 unfold bh fE
 by_cases h1:aK c.toNat=true
 ·rw [if_pos h1] at e1
  simp [e1,h1]
 ·rw [if_neg h1] at e1
  by_cases h2:zV c.toNat=true
  ·rw [if_pos h2] at e2
   simp [e1,e2,h1,h2]
  ·rw [if_neg h2] at e2
   by_cases h3:c=39
   ·have hq:=nd ((c::r).length+1) (c::r) 1 0 [] (by omega) (by simp) (by omega) hl
    have hqq:quoted (c::r)=_:=hq
    subst h3
    have l39:aK 39=false:=rfl
    have d39:zV 39=false:=rfl
    cases hs:dN r with
    | none=>
     simp only [List.drop_succ_cons,List.drop_zero,hs] at hqq
     simp [e1,e2,l39,d39,hqq]
    | some x=>
     obtain ⟨k1,k2,k3⟩:=sg r.length r x.1 x.2 (aY _) hs
     simp only [List.drop_succ_cons,List.drop_zero,hs] at hqq
     rw [show 1+x.2 - 2=x.2 - 1 by omega,k3,oB 1] at hqq
     simp [e1,e2,l39,d39,hqq]
   ·have h4:¬ (c.toNat:Int)=39:=fun h=>h3 (MA.1 (by simpa using h))
    simp [e1,e2,h1,h2,h3,h4]

def ke:Nat→zp→Nat→Bool
 | 0,_,_=>false
 | _+1,[],k=>decide (k≤400)
 | n+1,c::r,k=>
  if (bif (c.toNat:Int)==32 then true else (c.toNat:Int)==10)=true then ke n r k
  else if fL (fE c r).1=true then ke n ((c::r).drop (fE c r).2) (k+1) else false

theorem rm:∀ (n:Nat) (s:zp) (k:Nat),400 < k→ke n s k=false
 | 0,_,_,_=>rfl
 | _+1,[],k,h=>by rw [ke]; exact cx (by omega)
 | n+1,c::r,k,h=>by
  rw [ke]
  split
  ·exact rm n r k h
  ·split
   ·exact rm n _ (k+1) (by omega)
   ·rfl

theorem uS:∀ (n:Nat) (s:zp) (i:Nat) (l:List (Sem zq)),i≤s.length→s.length+1≤n+i→s.length≤1000000000→l.length≤400→((pQ n s (i:Int) l).2==(0:Int))=ke n (s.drop i) l.length
 | 0,s,i,l,h1,h2,h3,h4=>by omega
 | n + 1,s,i,l,h1,h2,h3,h4=>by
  rw [pQ]
  by_cases hlt:i < s.length
  ·have e1:List.take ((s.length:Int).toNat - (i:Int).toNat) (List.drop (i:Int).toNat s)=s.drop i:=by
    simp only [aQ]
    exact Hg (by simp)
   have hdl:(s.drop i).length≤1000000000:=by simp; omega
   rw [if_pos (aq (show (i:Int) < (s.length:Int) by omega)),e1,wm s hlt,nA i (by omega)]
   rw [cX hlt] at hdl ⊢
   rw [ke]
   split
   ·exact uS n s (i+1) l (by omega) (by omega) h3 h4
   ·rw [rK _ _ hdl]
    simp only
    by_cases hm:fL (fE s[i] (s.drop (i+1))).1=true
    ·rw [if_pos hm]
     by_cases h5:l.length=400
     ·rw [if_pos (by rw [hm,h5]; rfl),h5,rm n _ _ (by omega)]
      rfl
     ·rw [if_neg (by rw [hm]; simp; omega)]
      have hm':fL (bh (s[i]::s.drop (i+1))).1=true:=by rw [rK _ _ hdl]; exact hm
      obtain ⟨k,hk,hk1,hk2⟩:=qR _ (List.cons_ne_nil _ _) hdl hm'
      rw [rK _ _ hdl] at hk
      have hk:(fE s[i] (s.drop (i+1))).2=k:=Int.ofNat.inj hk
      have hk3:k≤s.length - i:=by rw [← cX hlt] at hk2; simpa using hk2
      rw [hk,show ((i:Int)+(k:Int))=((i+k:Nat):Int) by omega,TZ (i+k) (by omega),uS n s (i+k) _ (by omega) (by omega) h3 (by simp; omega),← cX hlt,List.drop_drop]
      simp
    ·rw [if_neg hm,if_pos (by simp [hm])]
     rfl
  ·rw [if_neg (by simp; omega),yB (by omega)]
   rw [ke]
   exact (aq h4).symm
set_option maxHeartbeats 4000000

theorem Ox {s:Sem zo} {t:zp} (h:(oM s).val=some (.inr (.str t,[]))):gg s=t:=by
 unfold gg Ct zW bl
 rw [h]
 rfl
theorem OH (s:Sem zo):dO s=(eP s&&((cut (gg s)).2==0)):=by
 unfold dO nj
 cases eP s
 ·rfl
 ·show ((if ((cut (gg s)).2 != 0)=true then (([],1):Sem Sh.str×Sem zg) else (gg s,0)).2==0)=_
  cases h:((cut (gg s)).2==0)
  ·have:((cut (gg s)).2 != 0)=true:=by simp only [bne,h]; rfl
   rw [if_pos this]; rfl
  ·have:((cut (gg s)).2 != 0)=false:=by simp only [bne,h]; rfl
   rw [this]; rfl

abbrev Cw:zp:=[115,101,108,101,99,116]
abbrev Wq:zp:=[100,101,108,101,116,101]
theorem ro:∀ (n:Nat) (s:zp) (k k':Nat),k'≤k→ke n s k=true→ke n s k'=true
 | 0,_,_,_,_,h=>h
 | _+1,[],k,k',hk,h=>by
  rw [ke] at h ⊢
  simp only [zZ] at h ⊢
  omega
 | n+1,c::r,k,k',hk,h=>by
  rw [ke] at h ⊢
  split
  ·rename_i h1
   rw [if_pos h1] at h
   exact ro n r k k' hk h
  ·rename_i h1
   rw [if_neg h1] at h
   split
   ·rename_i h2
    rw [if_pos h2] at h
    exact ro n _ (k+1) (k'+1) (by omega) h
   ·rename_i h2
    rw [if_neg h2] at h
    cases h
theorem zcx (s:zp) (h:s.length≤1000000000):((cut s).2==(0:Int))=ke (s.length+1) s 0:=by
 have:=uS (s.length+1) s 0 [] (by omega) (by omega) h (by simp)
 exact this
noncomputable section
abbrev cpR:List CP:=[.d zh]
abbrev Wo:List CP:=[.d .str,.nil,.d zg,.nil,.nil,.d .str,.d zg,.d zg,.d .str,.d .str,.nil,.nil]
abbrev zcu:List CP:=[.d zw,.vec (.sl zf)]
abbrev mz:List CP:=[.d zo]
abbrev eT:List CP:=[.d .str,.d .str,.d .str,.nil,.nil,.d .str,.nil,.nil,.d .str,.d zg,.d zg,.d .str,.d .str,.nil,.nil,.nil,.d .str,.d zg,.d zg,.d .str,.d .str,.nil,.d .str]
abbrev K5:List CP:=[.d .str,.d .str,.d .str,.d (.sl .str),.d (.sl zi),.d .str,.d (.sl .str),.vec bJ,.d .expr,.d (.sl zf),.nil,.d .expr,.d .str]
abbrev K6:List CP:=[.d .str,.d .str,.d .str,.d (.sl .str),.d (.sl zi),.d .str,.d (.sl .str),.vec bJ,.d .expr,.d (.sl zf),.vec aN,.d .expr,.d .str]

abbrev zd5:Nat→aj:=fun j=>if j=6 then { slots:=[1,2,3,4,5],prom:=[(3,some 11,.sl zf)] } else { }
inductive E4 where
 | h6 (i4:Int) (i5:Int) (z0:zu cpR) (z1:zu Wo) (z2:zu zcu)
abbrev zgD:E4→Nat×St
 | .h6 i4 i5 z0 z1 z2=>(6,⟨tm 38 [(1,AV.ptr 0 0),(2,AV.ptr 1 0),(3,AV.ptr 2 0),(4,AV.int .i64 i4),(5,AV.int .i64 i5)],[AO.box (bK [] cpR z0),AO.box (bK [] Wo z1),AO.box (bK [3] zcu z2),AO.vec zf.sl z2.2.1]⟩)
def W0 (x0:Sem zh):Tr (E4 ⊕ ao):=
 let a0:=(ll (x0.1.1,x0.1.2.1,x0.1.2.2.1,x0.1.2.2.2.1,x0.1.2.2.2.2.1,zE x0.1.2.2.2.2.2),[],())
 Tr.br (decide ((↑(length x0.2):Int) > 200)) (Tr.to (E4.h6 201 0 (x0,()) ([],0,[],0,0,[],[],()) a0))
 (Tr.to (E4.h6 40 0 (x0,()) ([],0,[],0,0,[],[],()) a0))
def Kj:E4→Tr (E4 ⊕ ao)
 | .h6 i4 i5 z0 z1 z2=>
  let a0:=(↑(length z0.1.2):Int)
  let a1:=[kT (getD z0.1.2 i5.toNat (zj zf.sl))]
  Tr.br (bif decide (i5 < a0) then decide (i5 < i4) else false)
  (Tr.chk (zI i5 (length z0.1.2))
   (Tr.chk (decide (z2.2.1.length+a1.length≤1073741824)) (Tr.to (E4.h6 i4 (IntKind.i64.wrap (i5+1)) z0 z1 (z2.1,z2.2.1++a1,())))))
  (Tr.re
   (AV.agg [AV.str z2.1.1,AV.sl zi z2.1.2.1,AV.int .i64 z2.1.2.2.1,AV.sl zg z2.1.2.2.2.1,AV.sl zq z2.1.2.2.2.2.1,AV.str (ze.op z2.1.2.2.2.2.2),AV.int .i64 (ze.v z2.1.2.2.2.2.2).1,AV.int .i64 (ze.v z2.1.2.2.2.2.2).2.1,AV.str (ze.v z2.1.2.2.2.2.2).2.2,AV.str (ze.s z2.1.2.2.2.2.2),AV.sl Sh.expr (ze.l z2.1.2.2.2.2.2),AV.vec 0])
   [AO.vec zf.sl z2.2.1])
def wt (x0:Sem zh):=zW [zh] Kj 100000000 (W0 x0)
def Gi (x0:Sem zh):=(wt x0).isSome
def sU (x0:Sem zh):=o1 (wt x0)
def ZM:=FT [zh] [zh] fun x=>wt x.1
theorem UQ:FK 33 ZM:=bY.T1 (f:=Tryz.f33) (keep:=zd5) (e:=zgD)

abbrev zir:Nat→aj:=fun j=>if j=3 then { slots:=[1,2,3,4],prom:=[(3,some 7,bJ)] } else if j=7 then { slots:=[1,2,3,5],prom:=[(3,some 15,aN)] } else { }
inductive SP where
 | h3 (i4:Int) (z0:zu mz) (z1:zu eT) (z2:zu K5)
 | h7 (i5:Int) (z0:zu mz) (z1:zu eT) (z2:zu K6)
abbrev e8p:SP→Nat×St
 | .h3 i4 z0 z1 z2=>(3,⟨tm 103 [(1,AV.ptr 0 0),(2,AV.ptr 1 0),(3,AV.ptr 2 0),(4,AV.int .i64 i4)],[AO.box (bK [] mz z0),AO.box (bK [] eT z1),AO.box (bK [3] K5 z2),AO.vec (Sh.str.pr Sh.str) z2.2.2.2.2.2.2.2.1]⟩)
 | .h7 i5 z0 z1 z2=>(7,⟨tm 103 [(1,AV.ptr 0 0),(2,AV.ptr 1 0),(3,AV.ptr 2 0),(5,AV.int .i64 i5)],[AO.box (bK [] mz z0),AO.box (bK [] eT z1),AO.box (bK [3,4] K6 z2),AO.vec (Sh.str.pr Sh.str) z2.2.2.2.2.2.2.2.1,AO.vec (Sh.str.pr Sh.expr) z2.2.2.2.2.2.2.2.2.2.2.1]⟩)
def i8p (x0:Sem zo):Tr (SP ⊕ ao):=
 Tr.chk (ex x0.1)
 (Tr.chk (ex x0.2.1)
  (Tr.chk (ex x0.2.2.1) (Tr.chk (ex x0.2.2.2.2.2.1) (Tr.chk (ex x0.2.2.2.2.2.2.2.2.2.2.2.2) (Tr.chk (mX x0.2.2.2.1) (Tr.chk (mX x0.2.2.2.2.2.2.1) (Tr.to (SP.h3 0 (x0,()) ([],[],[],[],[],0,0,[],[],[],0,0,[],[],[],()) (bP x0.1,bP x0.2.1,bP x0.2.2.1,f4 x0.2.2.2.1,mY x0.2.2.2.2.1,
  bP x0.2.2.2.2.2.1,f4 x0.2.2.2.2.2.2.1,[],dY (zE x0.2.2.2.2.2.2.2.2.1),kT x0.2.2.2.2.2.2.2.2.2.1,dY (zE x0.2.2.2.2.2.2.2.2.2.2.2.1),bP x0.2.2.2.2.2.2.2.2.2.2.2.2,())))))))))
def Rn:SP→Tr (SP ⊕ ao)
 | .h3 i4 z0 z1 z2=>
  let a0:=(↑(length z0.1.2.2.2.2.2.2.2.1):Int)
  let a1:=zI i4 (length z0.1.2.2.2.2.2.2.2.1)
  let a2:=getD z0.1.2.2.2.2.2.2.2.1 i4.toNat (zj bJ)
  let a3:=[(bP a2.1,bP a2.2)]
  Tr.br (bif decide (i4 < a0) then decide (i4 < 10) else false)
  (Tr.chk a1
   (Tr.chk (ex a2.1) (Tr.chk a1 (Tr.chk (ex a2.2) (Tr.chk (decide (z2.2.2.2.2.2.2.2.1.length+a3.length≤1073741824)) (Tr.to (SP.h3 (IntKind.i64.wrap (i4+1)) z0 z1 (z2.1,z2.2.1,z2.2.2.1,z2.2.2.2.1,z2.2.2.2.2.1,z2.2.2.2.2.2.1,z2.2.2.2.2.2.2.1,z2.2.2.2.2.2.2.2.1++a3,z2.2.2.2.2.2.2.2.2))))))))
  (Tr.to
   (SP.h7 0 z0 z1 (z2.1,z2.2.1,z2.2.2.1,z2.2.2.2.1,z2.2.2.2.2.1,z2.2.2.2.2.2.1,z2.2.2.2.2.2.2.1,z2.2.2.2.2.2.2.2.1,z2.2.2.2.2.2.2.2.2.1,z2.2.2.2.2.2.2.2.2.2.1,[],z2.2.2.2.2.2.2.2.2.2.2)))
 | .h7 i5 z0 z1 z2=>
  let a0:=(↑(length z0.1.2.2.2.2.2.2.2.2.2.2.1):Int)
  let a1:=zI i5 (length z0.1.2.2.2.2.2.2.2.2.2.2.1)
  let a2:=getD z0.1.2.2.2.2.2.2.2.2.2.2.1 i5.toNat (zj aN)
  let a3:=[(bP a2.1,zE (dY (zE a2.2)))]
  Tr.br (bif decide (i5 < a0) then decide (i5 < 10) else false)
  (Tr.chk a1
   (Tr.chk (ex a2.1) (Tr.chk a1 (Tr.chk (decide (z2.2.2.2.2.2.2.2.2.2.2.1.length+a3.length≤1073741824)) (Tr.to (SP.h7 (IntKind.i64.wrap (i5+1)) z0 z1 (z2.1,z2.2.1,z2.2.2.1,z2.2.2.2.1,z2.2.2.2.2.1,z2.2.2.2.2.2.1,z2.2.2.2.2.2.2.1,z2.2.2.2.2.2.2.2.1,z2.2.2.2.2.2.2.2.2.1,z2.2.2.2.2.2.2.2.2.2.1,z2.2.2.2.2.2.2.2.2.2.2.1++a3,z2.2.2.2.2.2.2.2.2.2.2.2)))))))
  (Tr.re
   (AV.agg [AV.str z2.1,AV.str z2.2.1,AV.str z2.2.2.1,AV.sl Sh.str z2.2.2.2.1,AV.sl zi z2.2.2.2.2.1,AV.str z2.2.2.2.2.2.1,AV.sl Sh.str z2.2.2.2.2.2.2.1,AV.vec 0,AV.str (ze.op z2.2.2.2.2.2.2.2.2.1),AV.int .i64 (ze.v z2.2.2.2.2.2.2.2.2.1).1,AV.int .i64 (ze.v z2.2.2.2.2.2.2.2.2.1).2.1,AV.str (ze.v z2.2.2.2.2.2.2.2.2.1).2.2,AV.str (ze.s z2.2.2.2.2.2.2.2.2.1),
   AV.sl Sh.expr (ze.l z2.2.2.2.2.2.2.2.2.1),AV.sl zf z2.2.2.2.2.2.2.2.2.2.1,AV.vec 1,AV.str (ze.op z2.2.2.2.2.2.2.2.2.2.2.2.1),AV.int .i64 (ze.v z2.2.2.2.2.2.2.2.2.2.2.2.1).1,AV.int .i64 (ze.v z2.2.2.2.2.2.2.2.2.2.2.2.1).2.1,AV.str (ze.v z2.2.2.2.2.2.2.2.2.2.2.2.1).2.2,AV.str (ze.s z2.2.2.2.2.2.2.2.2.2.2.2.1),
   AV.sl Sh.expr (ze.l z2.2.2.2.2.2.2.2.2.2.2.2.1),AV.str z2.2.2.2.2.2.2.2.2.2.2.2.2.1])
   [AO.vec (Sh.str.pr Sh.str) z2.2.2.2.2.2.2.2.1,AO.vec (Sh.str.pr Sh.expr) z2.2.2.2.2.2.2.2.2.2.2.1])
def rP (x0:Sem zo):=zW [zo] Rn 100000000 (i8p x0)
def Gg (x0:Sem zo):=(rP x0).isSome
def M9 (x0:Sem zo):=o1 (rP x0)
def F8p:=FT [zo] [zo] fun x=>rP x.1
theorem SF:FK 10 F8p:=bY.T1 (f:=Tryz.f10) (keep:=zir) (e:=e8p)

def S2:=fY.addL [(33,ZM),(10,F8p)]
theorem y2:zl S2:=bY.addL <| fc UQ <| fc SF jn
end
noncomputable section

abbrev zij:Nat→aj:=fun j=>if j=3 then { slots:=[0,3,4],prom:=[(3,none,zh)] } else { }
inductive YU where
 | h3 (l0:List (Sem zh)) (i4:Int) (lh_0:List (Sem zh))
abbrev e7p:YU→Nat×St
 | .h3 l0 i4 lh_0=>(3,⟨tm 24 [(0,AV.sl zh l0),(3,AV.vec 0),(4,AV.int .i64 i4)],[AO.vec zh lh_0]⟩)
def i7p (x0:Sem zh.sl):Tr (YU ⊕ ao):=
 Tr.to (YU.h3 x0 0 [])
def t7p:YU→Tr (YU ⊕ ao)
 | .h3 l0 i4 lh_0=>
  let a0:=l0.getD i4.toNat (zj zh)
  let a1:=((a0.1.1,a0.1.2.1,a0.1.2.2.1,a0.1.2.2.2.1,a0.1.2.2.2.2.1,zE a0.1.2.2.2.2.2),a0.2)
  let a2:=sU a1
  let a3:=[((a2.1.1,a2.1.2.1,a2.1.2.2.1,a2.1.2.2.2.1,a2.1.2.2.2.2.1,zE a2.1.2.2.2.2.2),a2.2)]
  Tr.br (bif decide (i4 < (↑l0.length:Int)) then decide (i4 < 13) else false)
  (Tr.chk (zI i4 l0.length)
   (Tr.chk (Gi a1) (Tr.chk (decide (lh_0.length+a3.length≤1073741824)) (Tr.to (YU.h3 l0 (IntKind.i64.wrap (i4+1)) (lh_0++a3))))))
  (Tr.re (AV.vec 0)
   [AO.vec zh lh_0])
def wv (x0:Sem zh.sl):=zW [zh.sl] t7p 100000000 (i7p x0)
def Gj (x0:Sem zh.sl):=(wv x0).isSome
def Ay (x0:Sem zh.sl):=o1 (wv x0)
def F7p:=FT [zh.sl] [zh.sl] fun x=>wv x.1
theorem SE:FK 14 F7p:=y2.T1 (f:=Tryz.f14) (keep:=zij) (e:=e7p)

def HD:=S2.add 14 F7p
theorem nG:zl HD:=y2.add SE
end
noncomputable section
abbrev zK:List CP:=[.d (.sl zq),.d zg,.d .bool]

def zdB (x0:Sem (Sh.int IntKind.u8)):Tr (Empty ⊕ ao):=
 let a0:=bif decide (97≤x0) then decide (x0≤122) else false
 Tr.re (AV.bool (bif decide (65≤x0) then bif decide (x0≤90) then true else a0 else a0)) []
def rZ (x0:Sem (Sh.int IntKind.u8)):=zW [Sh.bool] t0 100000000 (zdB x0)
def kY (x0:Sem (Sh.int IntKind.u8)):=(rZ x0).isSome
def qw (x0:Sem (Sh.int IntKind.u8)):=o1 (rZ x0)
def RY:=FT [Sh.int IntKind.u8] [Sh.bool] fun x=>rZ x.1
theorem Pq:FK 177 RY:=nG.T1 (f:=Tryz.f177) (keep:=k0) (e:=e0)

def zdD (x0:Sem (Sh.int IntKind.u8)):Tr (Empty ⊕ ao):=
 Tr.re (AV.bool (bif decide (48≤x0) then decide (x0≤57) else false)) []
def w3 (x0:Sem (Sh.int IntKind.u8)):=zW [Sh.bool] t0 100000000 (zdD x0)
def gf (x0:Sem (Sh.int IntKind.u8)):=(w3 x0).isSome
def jb (x0:Sem (Sh.int IntKind.u8)):=o1 (w3 x0)
def R2:=FT [Sh.int IntKind.u8] [Sh.bool] fun x=>w3 x.1
theorem Pu:FK 179 R2:=nG.T1 (f:=Tryz.f179) (keep:=k0) (e:=e0)

abbrev MU:Nat→aj:=fun _=>{ }
theorem XS:zA HD.P 113 Tryz.f113 2:=aS (by kernel_rfl)
def Mn (y:zu zK) (x0:TS):Tr (Empty ⊕ ao):=
 let a0:=decide (y.2.1 < (↑(length y.1):Int))
 let a1:=zI y.2.1 (length y.1)
 let a2:=getD y.1 (toNat y.2.1) (zj zq)
 let a3:=a2.1==1
 let a4:=a2.1==4
 let a5:=a2.2==x0
 Tr.chk (bif a0 then a1&&bif a3 then a1 else a1&&bif a4 then a1 else true else true)
 (Tr.re (AV.bool (bif a0 then bif a3 then a5 else bif a4 then a5 else false else false)) (cj zK y))
theorem WC (y:zu zK) (x0:TS):rn HD 1 MU Tryz.f113 [AV.ptr 0 0,zz Sh.str x0] (cj zK y)=(Mn y x0).map (lf Tryz.f113 e0):=by kernel_rfl
def Ok (y:zu zK) (x0:TS):Option (zx (List.map some [Sh.bool])×zu zK):=yj [Sh.bool] zK t0 100000000 (Mn y x0)
def ki (y:zu zK) (x0:TS):Bool:=(Ok y x0).isSome
def nh (y:zu zK) (x0:TS):(Sem Sh.bool)×zu zK:=(fun r:zx (List.map some [Sh.bool])×zu zK=>(r.1.1,r.2)) ((Ok y x0).getD (cq [Sh.bool],fX zK))
def RI:zF:=xY zK [Sh.str] [Sh.bool] zK (fun y x=>ki y x.1) fun y x=>(((nh y x.1).1,()),(nh y x.1).2)
theorem Pb:FK 113 RI:=qZ (ps:=zK) (ks:=[Sh.str]) (outs:=[Sh.bool]) (keep:=MU) (gas:=400) (n:=100000000) (e:=e0) (t:=t0) (i:=fun y x=>Mn y x.1) nG XS (fun y x=>WC y x.1) (Kw _ _ _ _ _) (fun _ _=>by kernel_rfl) (fun _ _=>by kernel_rfl)

def mM:=HD.addL [(177,RY),(179,R2),(113,RI)]
theorem gP:zl mM:=nG.addL <| fc Pq <| fc Pu <| fc Pb jn
end
noncomputable section

abbrev Xq:=mn [(2,[1,3])]
inductive yp where
 | h2 (i3:Int) (z0:zu [CP.d zf])
abbrev zcB:yp→Nat×St
 | .h2 i3 z0=>(2,⟨tm 66 [(1,AV.ptr 0 0),(3,AV.int .i64 i3)],[AO.box (bK [] [CP.d zf] z0)]⟩)
def zdr (x0:Sem zf):Tr (yp ⊕ ao):=
 Tr.to (yp.h2 0 (x0,()))
def zfW:yp→Tr (yp ⊕ ao)
 | .h2 i3 z0=>
  let a0:=(↑(length z0.1.2.2):Int)
  let a1:=zI i3 (length z0.1.2.2)
  let a2:=(↑(getD z0.1.2.2 i3.toNat 0).toNat:Int)
  let a3:=decide (a2 < 32)
  let a4:=z0.1.2.1==0
  let a5:=z0.1.2.2==[]
  Tr.br (decide (i3 < a0))
  (Tr.chk (a1&&bif a3 then true else a1)
   (Tr.br (bif a3 then true else decide (a2 > 126)) (Tr.re (AV.kb false) []) (Tr.to (yp.h2 (IntKind.i64.wrap (i3+1)) z0))))
  (Tr.br (z0.1.1==0) (Tr.re (AV.bool (bif a4 then a5 else false)) [])
   (Tr.br (z0.1.1==1) (Tr.re (AV.bool a5) []) (Tr.br (z0.1.1==2) (Tr.re (AV.bool (bif a4 then decide (a0≤40) else false)) []) (Tr.br (z0.1.1==3) (Tr.re (AV.bool (bif a4 then a5 else bif z0.1.2.1==1 then a5 else false)) []) (Tr.re (AV.kb false) [])))))
def Gx (x0:Sem zf):=zW [Sh.bool] zfW 100000000 (zdr x0)
def wR (x0:Sem zf):=(Gx x0).isSome
def Em (x0:Sem zf):=o1 (Gx x0)
def Ry:=FT [zf] [Sh.bool] fun x=>Gx x.1
theorem O1:FK 121 Ry:=gP.T1 (f:=Tryz.f121) (keep:=Xq) (e:=zcB)

def zdF (x0:Sem Sh.bool):Tr (Empty ⊕ ao):=
 Tr.br x0 (Tr.re (AV.agg [AV.int .i64 3,AV.int .i64 1,AV.str []]) []) (Tr.re (AV.agg [AV.int .i64 3,AV.int .i64 0,AV.str []]) [])
def wV (x0:Sem Sh.bool):=zW [zf] t0 100000000 (zdF x0)
def wT (x0:Sem Sh.bool):=(wV x0).isSome
def bH (x0:Sem Sh.bool):=o1 (wV x0)
def R6:=FT [Sh.bool] [zf] fun x=>wV x.1
theorem Py:FK 188 R6:=gP.T1 (f:=Tryz.f188) (keep:=k0) (e:=e0)

abbrev MZ:Nat→aj:=fun _=>{ }
theorem X0:zA mM.P 276 Tryz.f276 1:=aS (by kernel_rfl)
def Mt (x0:TS):Tr (Empty ⊕ ao):=
 Tr.re
 (AV.bool
  (bif x0==[97,110,100] then true
  else bif x0==[111,114] then true else bif x0==[61] then true else bif x0==[60] then true else bif x0==[43] then true else x0==[45]))
 []
theorem WN (x0:TS):rn mM 0 MZ Tryz.f276 [zz Sh.str x0] []=(Mt x0).map (lf Tryz.f276 e0):=by kernel_rfl
def N4 (x0:TS):Option (zx (List.map some [Sh.bool])):=zW [Sh.bool] t0 100000000 (Mt x0)
def N3 (x0:TS):Bool:=(N4 x0).isSome
def TT (x0:TS):Sem Sh.bool:=(fun r:zx (List.map some [Sh.bool])=>r.1) ((N4 x0).getD (cq [Sh.bool]))
def Sg:zF:=zG [Sh.str] [Sh.bool] (fun x=>N3 x.1) fun x=>(TT x.1,())
theorem PI:FK 276 Sg:=jq (ks:=[Sh.str]) (outs:=[Sh.bool]) (keep:=MZ) (gas:=400) (n:=100000000) (e:=e0) (t:=t0) (i:=fun x=>Mt x.1) gP X0 (fun x=>WN x.1) (Kw _ _ _ _ _) (fun _=>by kernel_rfl) (fun _=>by kernel_rfl)

abbrev M5:Nat→aj:=fun j=>if j=2 then { slots:=[0,1,5] } else { }
inductive CZ where
 | h2 (l0:LC) (s1:TS) (i5:Int)
abbrev Li:CZ→Nat×St
 | .h2 l0 s1 i5=>(2,⟨tm 20 [(0,AV.sl zi l0),(1,AV.str s1),(5,AV.int .i64 i5)],[]⟩)
theorem zeQ:zA mM.P 119 Tryz.f119 2:=aS (by kernel_rfl)
def W9 (x0:Sem zi.sl) (x1:TS):Tr (CZ ⊕ ao):=
 Tr.to (CZ.h2 x0 x1 0)
def Rl (l0:LC) (s1:TS) (i5:Int) (a0:Sem zi):Tr (CZ ⊕ ao):=
 Tr.br (decide (i5 < (↑l0.length:Int)))
 (Tr.chk (zI i5 l0.length) (Tr.br (a0.1==s1) (Tr.re (AV.int .i64 i5) []) (Tr.to (CZ.h2 l0 s1 (IntKind.i64.wrap (i5+1))))))
 (Tr.re (AV.int .i64 (-1)) [])
def YM (l0:LC) (s1:TS) (i5:Int):Tr (CZ ⊕ ao):=
 let a0:=l0.getD i5.toNat (zj zi)
 Rl l0 s1 i5 a0
theorem zc6 (x0:Sem zi.sl) (x1:TS):rn mM 0 M5 Tryz.f119 [zz zi.sl x0,zz Sh.str x1] []=(W9 x0 x1).map (lf Tryz.f119 Li):=by kernel_rfl
def YL:CZ→Tr (CZ ⊕ ao)
 | .h2 l0 s1 i5=>YM l0 s1 i5
theorem zfx:∀ s,run mM 0 M5 (Func.results Tryz.f119).toList 400 (zy Tryz.f119 (Li s).1) (Li s).2=(YL s).map (lf Tryz.f119 Li)
 | .h2 l0 s1 i5=>by kernel_rfl
def Er (x0:Sem zi.sl) (x1:TS):Option (zx (List.map some [zg])):=zW [zg] YL 100000000 (W9 x0 x1)
def N6 (x0:Sem zi.sl) (x1:TS):Bool:=(Er x0 x1).isSome
def Rb (x0:Sem zi.sl) (x1:TS):Sem zg:=(fun r:zx (List.map some [zg])=>r.1) ((Er x0 x1).getD (cq [zg]))
def Z5:zF:=zG [zi.sl,Sh.str] [zg] (fun x=>N6 x.1 x.2.1) fun x=>(Rb x.1 x.2.1,())
theorem Vf:FK 119 Z5:=jq (ks:=[zi.sl,Sh.str]) (outs:=[zg]) (keep:=M5) (gas:=400) (n:=100000000) (e:=Li) (t:=YL) (i:=fun x=>W9 x.1 x.2.1) gP zeQ (fun x=>zc6 x.1 x.2.1) zfx (fun _=>by kernel_rfl) (fun _=>by kernel_rfl)

def Dw (g:Sem Sh.expr→Sem Sh.expr→Sem Sh.bool) (c:Sem Sh.expr→Sem Sh.expr→Bool):bx:=mM.add 103 (zG [Sh.expr,Sh.expr] [Sh.bool] (fun x=>c x.1 x.2.1) fun x=>(g x.1 x.2.1,()))
theorem Jq {g:Sem Sh.expr→Sem Sh.expr→Sem Sh.bool} {c:Sem Sh.expr→Sem Sh.expr→Bool} (hg:FK 103 (zG [Sh.expr,Sh.expr] [Sh.bool] (fun x=>c x.1 x.2.1) fun x=>(g x.1 x.2.1,()))):zl (Dw g c):=gP.add hg
abbrev M7:Nat→aj:=fun j=>if j=4 then { slots:=[2,3,5] } else { }
inductive C1 where
 | h4 (i5:Int) (z0:zu [CP.d Sh.expr]) (z1:zu [CP.d Sh.expr])
abbrev Lm:C1→Nat×St
 | .h4 i5 z0 z1=>(4,⟨tm 53 [(2,AV.ptr 0 0),(3,AV.ptr 1 0),(5,AV.int .i64 i5)],[AO.box (bK [] [CP.d Sh.expr] z0),AO.box (bK [] [CP.d Sh.expr] z1)]⟩)
theorem zfd (g:Sem Sh.expr→Sem Sh.expr→Sem Sh.bool) (c:Sem Sh.expr→Sem Sh.expr→Bool):zA (Dw g c).P 103 Tryz.f103 2:=aS (by kernel_rfl)
def JL (_:Sem Sh.expr→Sem Sh.expr→Sem Sh.bool) (_:Sem Sh.expr→Sem Sh.expr→Bool) (x0:Sem Sh.expr) (x1:Sem Sh.expr):Tr (C1 ⊕ ao):=
 Tr.br
 (bif !ze.op x0==ze.op x1 then true
 else
  bif !((ze.v x0).1==(ze.v x1).1&&((ze.v x0).2.1==(ze.v x1).2.1&&((ze.v x0).2.2==(ze.v x1).2.2&&true))) then true
  else bif !ze.s x0==ze.s x1 then true else (↑(ze.l x0).length:Int) != (↑(ze.l x1).length:Int))
 (Tr.re (AV.kb false) []) (Tr.to (C1.h4 0 (x0,()) (x1,())))
def CF (g:Sem Sh.expr→Sem Sh.expr→Sem Sh.bool) (c:Sem Sh.expr→Sem Sh.expr→Bool) (i5:Int) (z0:zu [CP.d Sh.expr]) (z1:zu [CP.d Sh.expr]) (a0:Int) (a1:ze) (a2:ze):Tr (C1 ⊕ ao):=
 Tr.br (decide (i5 < a0))
 (Tr.chk (zI i5 (ze.l z0.1).length)
  (Tr.chk (zI i5 (ze.l z1.1).length) (Tr.chk (c a1 a2) (Tr.br (!g a1 a2) (Tr.re (AV.kb false) []) (Tr.to (C1.h4 (IntKind.i64.wrap (i5+1)) z0 z1))))))
 (Tr.re (AV.kb true) [])
def G1 (g:Sem Sh.expr→Sem Sh.expr→Sem Sh.bool) (c:Sem Sh.expr→Sem Sh.expr→Bool) (i5:Int) (z0:zu [CP.d Sh.expr]) (z1:zu [CP.d Sh.expr]):Tr (C1 ⊕ ao):=
 let a0:=(↑(ze.l z0.1).length:Int)
 let a1:=zE ((ze.l z0.1).getD i5.toNat (zj Sh.expr))
 let a2:=zE ((ze.l z1.1).getD i5.toNat (zj Sh.expr))
 CF g c i5 z0 z1 a0 a1 a2
theorem zdg (g:Sem Sh.expr→Sem Sh.expr→Sem Sh.bool) (c:Sem Sh.expr→Sem Sh.expr→Bool) (x0:Sem Sh.expr) (x1:Sem Sh.expr):rn (Dw g c) 0 M7 Tryz.f103 [zz Sh.expr x0,zz Sh.expr x1] []=(JL g c x0 x1).map (lf Tryz.f103 Lm):=by kernel_rfl
def ES (g:Sem Sh.expr→Sem Sh.expr→Sem Sh.bool) (c:Sem Sh.expr→Sem Sh.expr→Bool):C1→Tr (C1 ⊕ ao)
 | .h4 i5 z0 z1=>G1 g c i5 z0 z1
theorem zfF (g:Sem Sh.expr→Sem Sh.expr→Sem Sh.bool) (c:Sem Sh.expr→Sem Sh.expr→Bool):∀ s,run (Dw g c) 0 M7 (Func.results Tryz.f103).toList 400 (zy Tryz.f103 (Lm s).1) (Lm s).2=(ES g c s).map (lf Tryz.f103 Lm)
 | .h4 i5 z0 z1=>by kernel_rfl
def fy (o:Option (zx (List.map some [Sh.bool]))):Sem Sh.bool:=(fun r:zx (List.map some [Sh.bool])=>r.1) (o.getD (cq [Sh.bool]))
def Iq (g:Sem Sh.expr→Sem Sh.expr→Sem Sh.bool) (c:Sem Sh.expr→Sem Sh.expr→Bool) (x0:Sem Sh.expr) (x1:Sem Sh.expr):Option (zx (List.map some [Sh.bool])):=zW [Sh.bool] (ES g c) 3000000000 (JL g c x0 x1)
def bI:Nat→Sem Sh.expr→Sem Sh.expr→Option (zx (List.map some [Sh.bool]))
 | 0=>fun _ _=>none
 | n+1=>Iq (fun x0 x1=>fy (bI n x0 x1)) fun x0 x1=>(bI n x0 x1).isSome
theorem Xl:zA mM.P 103 Tryz.f103 2:=aS (by kernel_rfl)
theorem Hd:∀ n,FK 103 (zG [Sh.expr,Sh.expr] [Sh.bool] (fun x=>(bI n x.1 x.2.1).isSome) fun x=>(fy (bI n x.1 x.2.1),()))
 | 0=>dz ⟨Tryz.f103,Xl.1,Xl.2.1,Xl.2.2.1⟩ (fun _=>rfl)
 | n+1=>jq (E:=Dw (fun x0 x1=>fy (bI n x0 x1)) (fun x0 x1=>(bI n x0 x1).isSome)) (ks:=[Sh.expr,Sh.expr]) (outs:=[Sh.bool]) (keep:=M7) (gas:=400) (n:=3000000000) (e:=Lm) (t:=ES (fun x0 x1=>fy (bI n x0 x1)) (fun x0 x1=>(bI n x0 x1).isSome)) (i:=fun x=>JL (fun x0 x1=>fy (bI n x0 x1)) (fun x0 x1=>(bI n x0 x1).isSome) x.1 x.2.1) (Jq (Hd n)) (zfd _ _) (fun x=>zdg _ _ x.1 x.2.1) (zfF _ _) (fun _=>by kernel_rfl) (fun _=>by kernel_rfl)
def B6 (x0:Sem Sh.expr) (x1:Sem Sh.expr):Option (zx (List.map some [Sh.bool])):=bI 16 x0 x1
def iX (x0:Sem Sh.expr) (x1:Sem Sh.expr):Bool:=(B6 x0 x1).isSome
def gS (x0:Sem Sh.expr) (x1:Sem Sh.expr):Sem Sh.bool:=fy (B6 x0 x1)
def zao:zF:=zG [Sh.expr,Sh.expr] [Sh.bool] (fun x=>iX x.1 x.2.1) fun x=>(gS x.1 x.2.1,())
theorem VA:FK 103 zao:=Hd 16

def vd (g:Sem Sh.expr→Sem zg) (c:Sem Sh.expr→Bool):bx:=mM.add 245 (zG [Sh.expr] [zg] (fun x=>c x.1) fun x=>(g x.1,()))
theorem Fx {g:Sem Sh.expr→Sem zg} {c:Sem Sh.expr→Bool} (hg:FK 245 (zG [Sh.expr] [zg] (fun x=>c x.1) fun x=>(g x.1,()))):zl (vd g c):=gP.add hg
abbrev Ge:Nat→aj:=fun j=>if j=3 then { slots:=[1,3,4] } else { }
inductive sn where
 | h3 (i3:Int) (i4:Int) (z0:zu [CP.d Sh.expr])
abbrev Dn:sn→Nat×St
 | .h3 i3 i4 z0=>(3,⟨tm 21 [(1,AV.ptr 0 0),(3,AV.int .i64 i3),(4,AV.int .i64 i4)],[AO.box (bK [] [CP.d Sh.expr] z0)]⟩)
theorem XZ (g:Sem Sh.expr→Sem zg) (c:Sem Sh.expr→Bool):zA (vd g c).P 245 Tryz.f245 1:=aS (by kernel_rfl)
def Mr (_:Sem Sh.expr→Sem zg) (_:Sem Sh.expr→Bool) (x0:Sem Sh.expr):Tr (sn ⊕ ao):=
 Tr.to (sn.h3 1 0 (x0,()))
def OL (g:Sem Sh.expr→Sem zg) (c:Sem Sh.expr→Bool) (i3:Int) (i4:Int) (z0:zu [CP.d Sh.expr]) (a0:Int) (a1:ze):Tr (sn ⊕ ao):=
 Tr.br (decide (i4 < a0))
 (Tr.chk (zI i4 (ze.l z0.1).length) (Tr.chk (c a1) (Tr.to (sn.h3 (IntKind.i64.wrap (i3+g a1)) (IntKind.i64.wrap (i4+1)) z0))))
 (Tr.re (AV.int .i64 i3) [])
def Rk (g:Sem Sh.expr→Sem zg) (c:Sem Sh.expr→Bool) (i3:Int) (i4:Int) (z0:zu [CP.d Sh.expr]):Tr (sn ⊕ ao):=
 let a0:=(↑(ze.l z0.1).length:Int)
 let a1:=zE ((ze.l z0.1).getD i4.toNat (zj Sh.expr))
 OL g c i3 i4 z0 a0 a1
theorem WK (g:Sem Sh.expr→Sem zg) (c:Sem Sh.expr→Bool) (x0:Sem Sh.expr):rn (vd g c) 0 Ge Tryz.f245 [zz Sh.expr x0] []=(Mr g c x0).map (lf Tryz.f245 Dn):=by kernel_rfl
def OK (g:Sem Sh.expr→Sem zg) (c:Sem Sh.expr→Bool):sn→Tr (sn ⊕ ao)
 | .h3 i3 i4 z0=>Rk g c i3 i4 z0
theorem Ya (g:Sem Sh.expr→Sem zg) (c:Sem Sh.expr→Bool):∀ s,run (vd g c) 0 Ge (Func.results Tryz.f245).toList 400 (zy Tryz.f245 (Dn s).1) (Dn s).2=(OK g c s).map (lf Tryz.f245 Dn)
 | .h3 i3 i4 z0=>by kernel_rfl
def kX (o:Option (zx (List.map some [zg]))):Sem zg:=(fun r:zx (List.map some [zg])=>r.1) (o.getD (cq [zg]))
def N2 (g:Sem Sh.expr→Sem zg) (c:Sem Sh.expr→Bool) (x0:Sem Sh.expr):Option (zx (List.map some [zg])):=zW [zg] (OK g c) 100000000 (Mr g c x0)
def eO:Nat→Sem Sh.expr→Option (zx (List.map some [zg]))
 | 0=>fun _=>none
 | n+1=>N2 (fun x0=>kX (eO n x0)) fun x0=>(eO n x0).isSome
theorem ML:zA mM.P 245 Tryz.f245 1:=aS (by kernel_rfl)
theorem CW:∀ n,FK 245 (zG [Sh.expr] [zg] (fun x=>(eO n x.1).isSome) fun x=>(kX (eO n x.1),()))
 | 0=>dz ⟨Tryz.f245,ML.1,ML.2.1,ML.2.2.1⟩ (fun _=>rfl)
 | n+1=>jq (E:=vd (fun x0=>kX (eO n x0)) (fun x0=>(eO n x0).isSome)) (ks:=[Sh.expr]) (outs:=[zg]) (keep:=Ge) (gas:=400) (n:=100000000) (e:=Dn) (t:=OK (fun x0=>kX (eO n x0)) (fun x0=>(eO n x0).isSome)) (i:=fun x=>Mr (fun x0=>kX (eO n x0)) (fun x0=>(eO n x0).isSome) x.1) (Fx (CW n)) (XZ _ _) (fun x=>WK _ _ x.1) (Ya _ _) (fun _=>by kernel_rfl) (fun _=>by kernel_rfl)
def Ep (x0:Sem Sh.expr):Option (zx (List.map some [zg])):=eO 16 x0
def Eo (x0:Sem Sh.expr):Bool:=(Ep x0).isSome
def Iv (x0:Sem Sh.expr):Sem zg:=kX (Ep x0)
def R5:zF:=zG [Sh.expr] [zg] (fun x=>Eo x.1) fun x=>(Iv x.1,())
theorem Px:FK 245 R5:=CW 16

def BC:=mM.addL [(121,Ry),(188,R6),(276,Sg),(119,Z5),(103,zao),(245,R5)]
theorem jx:zl BC:=gP.addL <| fc O1 <| fc Py <| fc PI <| fc Vf <| fc VA <| fc Px jn
end
noncomputable section

def zdC (x0:Sem (Sh.int IntKind.u8)):Tr (Empty ⊕ ao):=
 Tr.chk (gf x0&&bif jb x0 then true else kY x0) (Tr.re (AV.bool (bif jb x0 then true else bif qw x0 then true else x0==95)) [])
def B9 (x0:Sem (Sh.int IntKind.u8)):=zW [Sh.bool] t0 100000000 (zdC x0)
def tZ (x0:Sem (Sh.int IntKind.u8)):=(B9 x0).isSome
def GI (x0:Sem (Sh.int IntKind.u8)):=o1 (B9 x0)
def R0:=FT [Sh.int IntKind.u8] [Sh.bool] fun x=>B9 x.1
theorem Ps:FK 178 R0:=jx.T1 (f:=Tryz.f178) (keep:=k0) (e:=e0)

abbrev Xz:=mn [(3,[0,3,4])]
inductive yr where
 | h3 (s0:TS) (l3:LS) (i4:Int)
abbrev zcI:yr→Nat×St
 | .h3 s0 l3 i4=>(3,⟨tm 18 [(0,AV.str s0),(3,AV.sl Sh.str l3),(4,AV.int .i64 i4)],[]⟩)
def zdA (x0:TS):Tr (yr ⊕ ao):=
 Tr.to
 (yr.h3 x0
  [[65,78,68],[79,82],[78,79,84],[73,83],[78,85,76,76],[84,82,85,69],[70,65,76,83,69],[67,82,69,65,84,69],[84,65,66,76,69],[75,69,89],[85,78,73,81,85,69],[82,69,70,69,82,69,78,67,69,83],[67,72,69,67,75],[68,82,79,80],[73,78,83,69,82,84],
  [73,78,84,79],[86,65,76,85,69,83],[85,80,68,65,84,69],[83,69,84],[87,72,69,82,69],[68,69,76,69,84,69],[70,82,79,77],[83,69,76,69,67,84],[71,82,65,78,84],[82,69,86,79,75,69],[82,69,65,68],[87,82,73,84,69],[79,78],[84,79],
  [77,73,71,82,65,84,69],[67,79,80,89],[74,79,73,78],[71,82,79,85,80],[66,89],[83,85,77],[73,78,84],[84,69,88,84],[66,79,79,76]]
  0)
def zf1:yr→Tr (yr ⊕ ao)
 | .h3 s0 l3 i4=>
  Tr.br (decide (i4 < (↑l3.length:Int)))
  (Tr.chk (zI i4 l3.length) (Tr.br (l3.getD i4.toNat (zj Sh.str)==s0) (Tr.re (AV.kb true) []) (Tr.to (yr.h3 s0 l3 (IntKind.i64.wrap (i4+1))))))
  (Tr.re (AV.kb false) [])
def GK (x0:TS):=zW [Sh.bool] zf1 100000000 (zdA x0)
def GJ (x0:TS):=(GK x0).isSome
def N9 (x0:TS):=o1 (GK x0)
def RW:=FT [Sh.str] [Sh.bool] fun x=>GK x.1
theorem Po:FK 181 RW:=jx.T1 (f:=Tryz.f181) (keep:=Xz) (e:=zcI)

abbrev MP:Nat→aj:=fun _=>{ }
theorem XM:zA BC.P 106 Tryz.f106 2:=aS (by kernel_rfl)
def Mh (y:zu zK) (x0:TS):Tr (Empty ⊕ ao):=
 let a0:=(y.1,y.2.1,y.2.2.1,())
 let a1:=nh a0 x0
 Tr.chk (ki a0 x0)
 (Tr.br a1.1 (Tr.re (AV.kb true) (cj zK (a1.2.1,IntKind.i64.wrap (a1.2.2.1+1),a1.2.2.2)))
  (Tr.re (AV.kb false) (cj zK a1.2)))
theorem Ww (y:zu zK) (x0:TS):rn BC 1 MP Tryz.f106 [AV.ptr 0 0,zz Sh.str x0] (cj zK y)=(Mh y x0).map (lf Tryz.f106 e0):=by kernel_rfl
def IA (y:zu zK) (x0:TS):Option (zx (List.map some [Sh.bool])×zu zK):=yj [Sh.bool] zK t0 100000000 (Mh y x0)
def aU (y:zu zK) (x0:TS):Bool:=(IA y x0).isSome
def bq (y:zu zK) (x0:TS):(Sem Sh.bool)×zu zK:=(fun r:zx (List.map some [Sh.bool])×zu zK=>(r.1.1,r.2)) ((IA y x0).getD (cq [Sh.bool],fX zK))
def RC:zF:=xY zK [Sh.str] [Sh.bool] zK (fun y x=>aU y x.1) fun y x=>(((bq y x.1).1,()),(bq y x.1).2)
theorem O5:FK 106 RC:=qZ (ps:=zK) (ks:=[Sh.str]) (outs:=[Sh.bool]) (keep:=MP) (gas:=400) (n:=100000000) (e:=e0) (t:=t0) (i:=fun y x=>Mh y x.1) jx XM (fun y x=>Ww y x.1) (Kw _ _ _ _ _) (fun _ _=>by kernel_rfl) (fun _ _=>by kernel_rfl)

abbrev zep:=mn [(6,[2,3,5]),(11,[2,3,6]),(16,[2,3,7]),(21,[2,3,8]),(26,[2,3,9]),(31,[2,3,10])]
inductive ox where
 | h6 (i5:Int) (z0:zu mz) (z1:zu mz)
 | h11 (i6:Int) (z0:zu mz) (z1:zu mz)
 | h16 (i7:Int) (z0:zu mz) (z1:zu mz)
 | h21 (i8:Int) (z0:zu mz) (z1:zu mz)
 | h26 (i9:Int) (z0:zu mz) (z1:zu mz)
 | h31 (i10:Int) (z0:zu mz) (z1:zu mz)
abbrev zgO:ox→Nat×St
 | .h6 i5 z0 z1=>(6,⟨tm 238 [(2,AV.ptr 0 0),(3,AV.ptr 1 0),(5,AV.int .i64 i5)],[AO.box (bK [] mz z0),AO.box (bK [] mz z1)]⟩)
 | .h11 i6 z0 z1=>(11,⟨tm 238 [(2,AV.ptr 0 0),(3,AV.ptr 1 0),(6,AV.int .i64 i6)],[AO.box (bK [] mz z0),AO.box (bK [] mz z1)]⟩)
 | .h16 i7 z0 z1=>(16,⟨tm 238 [(2,AV.ptr 0 0),(3,AV.ptr 1 0),(7,AV.int .i64 i7)],[AO.box (bK [] mz z0),AO.box (bK [] mz z1)]⟩)
 | .h21 i8 z0 z1=>(21,⟨tm 238 [(2,AV.ptr 0 0),(3,AV.ptr 1 0),(8,AV.int .i64 i8)],[AO.box (bK [] mz z0),AO.box (bK [] mz z1)]⟩)
 | .h26 i9 z0 z1=>(26,⟨tm 238 [(2,AV.ptr 0 0),(3,AV.ptr 1 0),(9,AV.int .i64 i9)],[AO.box (bK [] mz z0),AO.box (bK [] mz z1)]⟩)
 | .h31 i10 z0 z1=>(31,⟨tm 238 [(2,AV.ptr 0 0),(3,AV.ptr 1 0),(10,AV.int .i64 i10)],[AO.box (bK [] mz z0),AO.box (bK [] mz z1)]⟩)
def zh6 (x0:Sem zo) (x1:Sem zo):Tr (ox ⊕ ao):=
 let a0 := !x0.1==x1.1
 let a1 := !x0.2.1==x1.2.1
 let a2 := !x0.2.2.1==x1.2.2.1
 let a3 := !x0.2.2.2.2.2.1==x1.2.2.2.2.2.1
 let a4 := !x0.2.2.2.2.2.2.2.2.2.2.2.2==x1.2.2.2.2.2.2.2.2.2.2.2.2
 let a5:=zE x0.2.2.2.2.2.2.2.2.1
 let a6:=zE x1.2.2.2.2.2.2.2.2.1
 let a7 := !gS a5 a6
 let a8:=zE x0.2.2.2.2.2.2.2.2.2.2.2.1
 let a9:=zE x1.2.2.2.2.2.2.2.2.2.2.2.1
 Tr.chk
 (bif a0 then true
 else bif a1 then true else bif a2 then true else bif a3 then true else bif a4 then true else iX a5 a6&&bif a7 then true else iX a8 a9)
 (Tr.br (bif a0 then true else bif a1 then true else bif a2 then true else bif a3 then true else bif a4 then true else bif a7 then true else !gS a8 a9)
  (Tr.re (AV.kb false) [])
  (Tr.br (bif (↑(length x0.2.2.2.1):Int) != (↑(length x1.2.2.2.1):Int) then true else bif (↑(length x0.2.2.2.2.1):Int) != (↑(length x1.2.2.2.2.1):Int) then true else bif (↑(length x0.2.2.2.2.2.2.1):Int) != (↑(length x1.2.2.2.2.2.2.1):Int) then true else bif (↑(length x0.2.2.2.2.2.2.2.1):Int) != (↑(length x1.2.2.2.2.2.2.2.1):Int) then true
  else bif (↑(length x0.2.2.2.2.2.2.2.2.2.1):Int) != (↑(length x1.2.2.2.2.2.2.2.2.2.1):Int) then true else (↑(length x0.2.2.2.2.2.2.2.2.2.2.1):Int) != (↑(length x1.2.2.2.2.2.2.2.2.2.2.1):Int)) (Tr.re (AV.kb false) []) (Tr.to (ox.h6 0 (x0,()) (x1,())))))
def ziG:ox→Tr (ox ⊕ ao)
 | .h6 i5 z0 z1=>
  let a0:=(↑(length z0.1.2.2.2.1):Int)
  Tr.br (decide (i5 < a0))
  (Tr.chk (zI i5 (length z0.1.2.2.2.1))
   (Tr.chk (zI i5 (length z1.1.2.2.2.1)) (Tr.br (!getD z0.1.2.2.2.1 i5.toNat (zj Sh.str)==getD z1.1.2.2.2.1 i5.toNat (zj Sh.str)) (Tr.re (AV.kb false) []) (Tr.to (ox.h6 (IntKind.i64.wrap (i5+1)) z0 z1)))))
  (Tr.to (ox.h11 0 z0 z1))
 | .h11 i6 z0 z1=>
  let a0:=(↑(length z0.1.2.2.2.2.1):Int)
  let a1:=getD z0.1.2.2.2.2.1 i6.toNat (zj zi)
  let a2:=getD z1.1.2.2.2.2.1 i6.toNat (zj zi)
  Tr.br (decide (i6 < a0))
  (Tr.chk (zI i6 (length z0.1.2.2.2.2.1))
   (Tr.chk (zI i6 (length z1.1.2.2.2.2.1)) (Tr.br (!(a1.1==a2.1&&(a1.2.1==a2.2.1&&(a1.2.2==a2.2.2&&true)))) (Tr.re (AV.kb false) []) (Tr.to (ox.h11 (IntKind.i64.wrap (i6+1)) z0 z1)))))
  (Tr.to (ox.h16 0 z0 z1))
 | .h16 i7 z0 z1=>
  let a0:=(↑(length z0.1.2.2.2.2.2.2.1):Int)
  Tr.br (decide (i7 < a0))
  (Tr.chk (zI i7 (length z0.1.2.2.2.2.2.2.1))
   (Tr.chk (zI i7 (length z1.1.2.2.2.2.2.2.1)) (Tr.br (!getD z0.1.2.2.2.2.2.2.1 i7.toNat (zj Sh.str)==getD z1.1.2.2.2.2.2.2.1 i7.toNat (zj Sh.str)) (Tr.re (AV.kb false) []) (Tr.to (ox.h16 (IntKind.i64.wrap (i7+1)) z0 z1)))))
  (Tr.to (ox.h21 0 z0 z1))
 | .h21 i8 z0 z1=>
  let a0:=(↑(length z0.1.2.2.2.2.2.2.2.1):Int)
  let a1:=getD z0.1.2.2.2.2.2.2.2.1 i8.toNat (zj bJ)
  let a2:=getD z1.1.2.2.2.2.2.2.2.1 i8.toNat (zj bJ)
  Tr.br (decide (i8 < a0))
  (Tr.chk (zI i8 (length z0.1.2.2.2.2.2.2.2.1))
   (Tr.chk (zI i8 (length z1.1.2.2.2.2.2.2.2.1)) (Tr.br (!(a1.1==a2.1&&(a1.2==a2.2&&true))) (Tr.re (AV.kb false) []) (Tr.to (ox.h21 (IntKind.i64.wrap (i8+1)) z0 z1)))))
  (Tr.to (ox.h26 0 z0 z1))
 | .h26 i9 z0 z1=>
  let a0:=(↑(length z0.1.2.2.2.2.2.2.2.2.2.1):Int)
  let a1:=getD z0.1.2.2.2.2.2.2.2.2.2.1 i9.toNat (zj zf)
  let a2:=getD z1.1.2.2.2.2.2.2.2.2.2.1 i9.toNat (zj zf)
  Tr.br (decide (i9 < a0))
  (Tr.chk (zI i9 (length z0.1.2.2.2.2.2.2.2.2.2.1))
   (Tr.chk (zI i9 (length z1.1.2.2.2.2.2.2.2.2.2.1)) (Tr.br (!(a1.1==a2.1&&(a1.2.1==a2.2.1&&(a1.2.2==a2.2.2&&true)))) (Tr.re (AV.kb false) []) (Tr.to (ox.h26 (IntKind.i64.wrap (i9+1)) z0 z1)))))
  (Tr.to (ox.h31 0 z0 z1))
 | .h31 i10 z0 z1=>
  let a0:=(↑(length z0.1.2.2.2.2.2.2.2.2.2.2.1):Int)
  let a1:=zI i10 (length z0.1.2.2.2.2.2.2.2.2.2.2.1)
  let a2:=zI i10 (length z1.1.2.2.2.2.2.2.2.2.2.2.1)
  let a3:=getD z0.1.2.2.2.2.2.2.2.2.2.2.1 i10.toNat (zj aN)
  let a4:=getD z1.1.2.2.2.2.2.2.2.2.2.2.1 i10.toNat (zj aN)
  let a5 := !a3.1==a4.1
  let a6:=zE a3.2
  let a7:=zE a4.2
  Tr.br (decide (i10 < a0))
  (Tr.chk (a1&&(a2&&bif a5 then true else a1&&(a2&&iX a6 a7)))
   (Tr.br (bif a5 then true else !gS a6 a7) (Tr.re (AV.kb false) []) (Tr.to (ox.h31 (IntKind.i64.wrap (i10+1)) z0 z1))))
  (Tr.re (AV.kb true) [])
def Cd (x0:Sem zo) (x1:Sem zo):=zW [Sh.bool] ziG 100000000 (zh6 x0 x1)
def Rd (x0:Sem zo) (x1:Sem zo):=(Cd x0 x1).isSome
def Yy (x0:Sem zo) (x1:Sem zo):=o1 (Cd x0 x1)
def zau:=FT [zo,zo] [Sh.bool] fun x=>Cd x.1 x.2.1
theorem VH:FK 184 zau:=jx.T1 (f:=Tryz.f184) (keep:=zep) (e:=zgO)

def y3:=BC.addL [(178,R0),(181,RW),(106,RC),(184,zau)]
theorem nH:zl y3:=jx.addL <| fc Ps <| fc Po <| fc O5 <| fc VH jn
end
noncomputable section

abbrev Xx:=mn [(2,[0,3])]
inductive ut where
 | h2 (s0:TS) (i3:Int)
abbrev zcH:ut→Nat×St
 | .h2 s0 i3=>(2,⟨tm 28 [(0,AV.str s0),(3,AV.int .i64 i3)],[]⟩)
def zdz (x0:TS):Tr (ut ⊕ ao):=
 Tr.to (ut.h2 x0 0)
def zf0:ut→Tr (ut ⊕ ao)
 | .h2 s0 i3=>
  let a0:=(↑(getD s0 i3.toNat 0).toNat:Int)
  let a1:=decide (1≤(↑(length s0):Int))
  let a2:=decide ((↑(length s0):Int)≤16)
  let a3:=(↑(getD s0 (toNat 0) 0).toNat:Int)
  Tr.br (decide (i3 < (↑(length s0):Int)))
  (Tr.chk (zI i3 (length s0)) (Tr.chk (tZ a0) (Tr.br (!GI a0) (Tr.re (AV.kb false) []) (Tr.to (ut.h2 s0 (IntKind.i64.wrap (i3+1)))))))
  (Tr.chk (bif a1 then bif a2 then zI 0 (length s0)&&kY a3 else true else true)
   (Tr.re (AV.bool (bif a1 then bif a2 then qw a3 else false else false)) []))
def B8 (x0:TS):=zW [Sh.bool] zf0 100000000 (zdz x0)
def tY (x0:TS):=(B8 x0).isSome
def wZ (x0:TS):=o1 (B8 x0)
def RU:=FT [Sh.str] [Sh.bool] fun x=>B8 x.1
theorem Pm:FK 185 RU:=nH.T1 (f:=Tryz.f185) (keep:=Xx) (e:=zcH)

abbrev MQ:Nat→aj:=fun _=>{ }
theorem XN:zA y3.P 108 Tryz.f108 2:=aS (by kernel_rfl)
def Mi (y:zu zK) (x0:TS):Tr (Empty ⊕ ao):=
 let a0:=(y.1,y.2.1,y.2.2.1,())
 let a1:=bq a0 x0
 Tr.chk (aU a0 x0)
 (Tr.br (!a1.1) (Tr.re (AV.tup []) [AO.box [AV.sl zq a1.2.1,AV.int .i64 a1.2.2.1,AV.kb false]])
  (Tr.re (AV.tup []) (cj zK a1.2)))
theorem Wx (y:zu zK) (x0:TS):rn y3 1 MQ Tryz.f108 [AV.ptr 0 0,zz Sh.str x0] (cj zK y)=(Mi y x0).map (lf Tryz.f108 e0):=by kernel_rfl
def Iy (y:zu zK) (x0:TS):Option (zx (List.map some [])×zu zK):=yj [] zK t0 100000000 (Mi y x0)
def zQ (y:zu zK) (x0:TS):Bool:=(Iy y x0).isSome
def ac (y:zu zK) (x0:TS):zu zK:=(fun r:zx (List.map some [])×zu zK=>r.2) ((Iy y x0).getD (cq [],fX zK))
def RD:zF:=xY zK [Sh.str] [] zK (fun y x=>zQ y x.1) fun y x=>((),ac y x.1)
theorem O6:FK 108 RD:=qZ (ps:=zK) (ks:=[Sh.str]) (outs:=[]) (keep:=MQ) (gas:=400) (n:=100000000) (e:=e0) (t:=t0) (i:=fun y x=>Mi y x.1) nH XN (fun y x=>Wx y x.1) (Kw _ _ _ _ _) (fun _ _=>by kernel_rfl) (fun _ _=>by kernel_rfl)

abbrev MR:Nat→aj:=fun _=>{ }
theorem XP:zA y3.P 109 Tryz.f109 1:=aS (by kernel_rfl)
def Mk (y:zu zK):Tr (Empty ⊕ ao):=
 let a0:=decide (y.2.1 < (↑(length y.1):Int))
 let a1:=zI y.2.1 (length y.1)
 let a2:=getD y.1 (toNat y.2.1) (zj zq)
 let a3:=a2.1==1
 let a4:=IntKind.i64.wrap (y.2.1+1)
 let a5:=IntKind.i64.wrap (a4 - 1)
 let a6:=getD y.1 a5.toNat (zj zq)
 Tr.chk (bif a0 then a1&&bif a3 then a1&&GJ a2.2 else true else true)
 (Tr.br (bif a0 then bif a3 then !N9 a2.2 else false else false)
  (Tr.chk (zI a5 (length y.1)) (Tr.re (AV.str a6.2) (cj zK (y.1,a4,y.2.2))))
  (Tr.re (AV.str []) [AO.box [AV.sl zq y.1,AV.int .i64 y.2.1,AV.kb false]]))
theorem Wz (y:zu zK):rn y3 1 MR Tryz.f109 [AV.ptr 0 0] (cj zK y)=(Mk y).map (lf Tryz.f109 e0):=by kernel_rfl
def Iz (y:zu zK):Option (zx (List.map some [Sh.str])×zu zK):=yj [Sh.str] zK t0 100000000 (Mk y)
def au (y:zu zK):Bool:=(Iz y).isSome
def aO (y:zu zK):(Sem Sh.str)×zu zK:=(fun r:zx (List.map some [Sh.str])×zu zK=>(r.1.1,r.2)) ((Iz y).getD (cq [Sh.str],fX zK))
def RF:zF:=xY zK [] [Sh.str] zK (fun y _=>au y) fun y _=>(((aO y).1,()),(aO y).2)
theorem O8:FK 109 RF:=qZ (ps:=zK) (ks:=[]) (outs:=[Sh.str]) (keep:=MR) (gas:=400) (n:=100000000) (e:=e0) (t:=t0) (i:=fun y x=>Mk y) nH XP (fun y x=>Wz y) (Kw _ _ _ _ _) (fun _ _=>by kernel_rfl) (fun _ _=>by kernel_rfl)

def y4:=y3.addL [(185,RU),(108,RD),(109,RF)]
theorem jm:zl y4:=nH.addL <| fc Pm <| fc O6 <| fc O8 jn
end
noncomputable section

def zdt (x0:Sem zf):Tr (Empty ⊕ ao):=
 Tr.chk (wR x0)
 (Tr.br (Em x0) (Tr.re (AV.agg [AV.int .i64 x0.1,AV.int .i64 x0.2.1,AV.str x0.2.2]) [])
  (Tr.re (AV.agg [AV.int .i64 0,AV.int .i64 0,AV.str []]) []))
def B5 (x0:Sem zf):=zW [zf] t0 100000000 (zdt x0)
def tR (x0:Sem zf):=(B5 x0).isSome
def ff (x0:Sem zf):=o1 (B5 x0)
def RA:=FT [zf] [zf] fun x=>B5 x.1
theorem O3:FK 124 RA:=jm.T1 (f:=Tryz.f124) (keep:=k0) (e:=e0)

def zds (x0:Sem zf) (x1:Sem Sh.bool):Tr (Empty ⊕ ao):=
 Tr.chk (wT x1) (Tr.re (AV.bool (x0.1==(bH x1).1&&(x0.2.1==(bH x1).2.1&&(x0.2.2==(bH x1).2.2&&true)))) [])
def NW (x0:Sem zf) (x1:Sem Sh.bool):=zW [Sh.bool] t0 100000000 (zds x0 x1)
def nb (x0:Sem zf) (x1:Sem Sh.bool):=(NW x0 x1).isSome
def qo (x0:Sem zf) (x1:Sem Sh.bool):=o1 (NW x0 x1)
def Rz:=FT [zf,Sh.bool] [Sh.bool] fun x=>NW x.1 x.2.1
theorem O2:FK 122 Rz:=jm.T1 (f:=Tryz.f122) (keep:=k0) (e:=e0)

def Bz (g:Sem Sh.expr→Sem zg→Sem Sh.bool) (c:Sem Sh.expr→Sem zg→Bool):bx:=y4.add 244 (zG [Sh.expr,zg] [Sh.bool] (fun x=>c x.1 x.2.1) fun x=>(g x.1 x.2.1,()))
theorem Fw {g:Sem Sh.expr→Sem zg→Sem Sh.bool} {c:Sem Sh.expr→Sem zg→Bool} (hg:FK 244 (zG [Sh.expr,zg] [Sh.bool] (fun x=>c x.1 x.2.1) fun x=>(g x.1 x.2.1,()))):zl (Bz g c):=jm.add hg
abbrev MY:Nat→aj:=fun _=>{ }
theorem XY (g:Sem Sh.expr→Sem zg→Sem Sh.bool) (c:Sem Sh.expr→Sem zg→Bool):zA (Bz g c).P 244 Tryz.f244 2:=aS (by kernel_rfl)
def Mq (g:Sem Sh.expr→Sem zg→Sem Sh.bool) (c:Sem Sh.expr→Sem zg→Bool) (x0:Sem Sh.expr) (x1:Sem zg):Tr (Empty ⊕ ao):=
 let a0:=(↑(ze.l x0).length:Int)==0
 let a1:=(ze.v x0).1==0&&((ze.v x0).2.1==0&&((ze.v x0).2.2==[]&&true))
 let a2:=(↑(ze.l x0).length:Int)==1
 let a3:=zI 0 (ze.l x0).length
 let a4:=zE ((ze.l x0).getD (toNat 0) (zj Sh.expr))
 let a5:=IntKind.i64.wrap (x1 - 1)
 let a6:=c a4 a5
 let a7:=g a4 a5
 let a8:=(↑(ze.l x0).length:Int)==2
 let a9:=zE ((ze.l x0).getD (toNat 1) (zj Sh.expr))
 Tr.br (x1==0) (Tr.re (AV.kb false) [])
 (Tr.br (ze.op x0==[108,105,116])
  (Tr.chk (wR (ze.v x0)) (Tr.re (AV.bool (bif Em (ze.v x0) then bif ze.s x0==[] then a0 else false else false)) []))
  (Tr.br (ze.op x0==[99,111,108]) (Tr.chk (bif a1 then tY (ze.s x0)&&bif wZ (ze.s x0) then GJ (ze.s x0) else true else true) (Tr.re (AV.bool (bif a1 then bif wZ (ze.s x0) then bif !N9 (ze.s x0) then a0 else false else false else false)) [])) (Tr.br (bif ze.op x0==[110,111,116] then true else ze.op x0==[110,117,108,108])
  (Tr.chk (bif a1 then bif ze.s x0==[] then bif a2 then a3&&a6 else true else true else true) (Tr.re (AV.bool (bif a1 then bif ze.s x0==[] then bif a2 then a7 else false else false else false)) [])) (Tr.chk (N3 (ze.op x0)) (Tr.br (TT (ze.op x0)) (Tr.chk
  (bif a1 then bif ze.s x0==[] then bif a8 then a3&&(a6&&bif a7 then zI 1 (ze.l x0).length&&c a9 a5 else true) else true else true else true) (Tr.re (AV.bool (bif a1 then bif ze.s x0==[] then bif a8 then bif a7 then g a9 a5 else false else false else false else false)) [])) (Tr.re (AV.kb false) []))))))
theorem WJ (g:Sem Sh.expr→Sem zg→Sem Sh.bool) (c:Sem Sh.expr→Sem zg→Bool) (x0:Sem Sh.expr) (x1:Sem zg):rn (Bz g c) 0 MY Tryz.f244 [zz Sh.expr x0,zz zg x1] []=(Mq g c x0 x1).map (lf Tryz.f244 e0):=by kernel_rfl
def qt (o:Option (zx (List.map some [Sh.bool]))):Sem Sh.bool:=(fun r:zx (List.map some [Sh.bool])=>r.1) (o.getD (cq [Sh.bool]))
def Ra (g:Sem Sh.expr→Sem zg→Sem Sh.bool) (c:Sem Sh.expr→Sem zg→Bool) (x0:Sem Sh.expr) (x1:Sem zg):Option (zx (List.map some [Sh.bool])):=zW [Sh.bool] t0 100000000 (Mq g c x0 x1)
def iZ:Nat→Sem Sh.expr→Sem zg→Option (zx (List.map some [Sh.bool]))
 | 0=>fun _ _=>none
 | n+1=>Ra (fun x0 x1=>qt (iZ n x0 x1)) fun x0 x1=>(iZ n x0 x1).isSome
theorem MK:zA y4.P 244 Tryz.f244 2:=aS (by kernel_rfl)
theorem CV:∀ n,FK 244 (zG [Sh.expr,zg] [Sh.bool] (fun x=>(iZ n x.1 x.2.1).isSome) fun x=>(qt (iZ n x.1 x.2.1),()))
 | 0=>dz ⟨Tryz.f244,MK.1,MK.2.1,MK.2.2.1⟩ (fun _=>rfl)
 | n+1=>jq (E:=Bz (fun x0 x1=>qt (iZ n x0 x1)) (fun x0 x1=>(iZ n x0 x1).isSome)) (ks:=[Sh.expr,zg]) (outs:=[Sh.bool]) (keep:=MY) (gas:=400) (n:=100000000) (e:=e0) (t:=t0) (i:=fun x=>Mq (fun x0 x1=>qt (iZ n x0 x1)) (fun x0 x1=>(iZ n x0 x1).isSome) x.1 x.2.1) (Fw (CV n)) (XY _ _) (fun x=>WJ _ _ x.1 x.2.1) (Kw _ _ _ _ _) (fun _=>by kernel_rfl) (fun _=>by kernel_rfl)
def Iu (x0:Sem Sh.expr) (x1:Sem zg):Option (zx (List.map some [Sh.bool])):=iZ 16 x0 x1
def It (x0:Sem Sh.expr) (x1:Sem zg):Bool:=(Iu x0 x1).isSome
def N1 (x0:Sem Sh.expr) (x1:Sem zg):Sem Sh.bool:=qt (Iu x0 x1)
def R4:zF:=zG [Sh.expr,zg] [Sh.bool] (fun x=>It x.1 x.2.1) fun x=>(N1 x.1 x.2.1,())
theorem Pw:FK 244 R4:=CV 16

def Dx (g:Sem Sh.expr→Sem (Sh.sl zi)→Sem zg×Sem zg) (c:Sem Sh.expr→Sem (Sh.sl zi)→Bool):bx:=y4.add 187 (zG [Sh.expr,Sh.sl zi] [zg,zg] (fun x=>c x.1 x.2.1) fun x=>((g x.1 x.2.1).1,(g x.1 x.2.1).2,()))
theorem Jr {g:Sem Sh.expr→Sem (Sh.sl zi)→Sem zg×Sem zg} {c:Sem Sh.expr→Sem (Sh.sl zi)→Bool} (hg:FK 187 (zG [Sh.expr,Sh.sl zi] [zg,zg] (fun x=>c x.1 x.2.1) fun x=>((g x.1 x.2.1).1,(g x.1 x.2.1).2,()))):zl (Dx g c):=jm.add hg
abbrev M8:Nat→aj:=fun j=>if j=5 then { slots:=[1,2,6] } else { }
inductive I5 where
 | h5 (l1:LC) (i6:Int) (z0:zu [CP.d Sh.expr])
abbrev Lo:I5→Nat×St
 | .h5 l1 i6 z0=>(5,⟨tm 116 [(1,AV.sl zi l1),(2,AV.ptr 0 0),(6,AV.int .i64 i6)],[AO.box (bK [] [CP.d Sh.expr] z0)]⟩)
theorem zfj (g:Sem Sh.expr→Sem zi.sl→Sem zg×Sem zg) (c:Sem Sh.expr→Sem zi.sl→Bool):zA (Dx g c).P 187 Tryz.f187 2:=aS (by kernel_rfl)
def Xe (g:Sem Sh.expr→Sem zi.sl→Sem zg×Sem zg) (c:Sem Sh.expr→Sem zi.sl→Bool) (x0:Sem Sh.expr) (x1:Sem zi.sl):Tr (I5 ⊕ ao):=
 let a0:=zE ((ze.l x0).getD (toNat 0) (zj Sh.expr))
 let a1:=g a0 x1
 let a2:=zE ((ze.l x0).getD (toNat 1) (zj Sh.expr))
 let a3:=g a2 x1
 let a4:=ze.op x0==[110,117,108,108]
 let a5:=ze.op x0==[61]
 let a6:=a1.1 != 0
 let a7:=a3.1 != 0
 let a8:=ze.op x0==[60]
 let a9:=ze.op x0==[43]
 let a10:=a1.1 != 1
 let a11:=bif a7 then a3.1 != 1 else false
 let a12:=ze.op x0==[45]
 let a13:=a1.1 != 3
 let a14:=bif a7 then a3.1 != 3 else false
 let a15:=bif a6 then a10 else false
 let a16:=bif a6 then a13 else false
 Tr.br (ze.op x0==[108,105,116]) (Tr.re (AV.tup [AV.int .i64 (ze.v x0).1,AV.int .i64 0]) [])
 (Tr.br (ze.op x0==[99,111,108]) (Tr.to (I5.h5 x1 0 (x0,())))
  (Tr.chk (zI 0 (ze.l x0).length) (Tr.chk (c a0 x1) (Tr.br (a1.2 != 0) (Tr.re (AV.tup [AV.int .i64 0,AV.int .i64 a1.2]) []) (Tr.br ((↑(ze.l x0).length:Int)==2) (Tr.chk (zI 1 (ze.l x0).length) (Tr.chk (c a2 x1) (Tr.br (a3.2 != 0) (Tr.re (AV.tup [AV.int .i64 0,AV.int .i64 a3.2]) []) (Tr.br a4 (Tr.re (AV.tup [AV.int .i64 3,AV.int .i64 0]) []) (Tr.br a5
  (Tr.br (bif a6 then bif a7 then a1.1 != a3.1 else false else false) (Tr.re (AV.tup [AV.int .i64 0,AV.int .i64 5]) []) (Tr.re (AV.tup [AV.int .i64 3,AV.int .i64 0]) [])) (Tr.br a8 (Tr.br (bif a6 then bif a7 then a1.1 != a3.1 else false else false) (Tr.re (AV.tup [AV.int .i64 0,AV.int .i64 5]) []) (Tr.re (AV.tup [AV.int .i64 3,AV.int .i64 0]) [])) (Tr.br a9
  (Tr.br (bif a6 then bif a10 then true else a11 else a11) (Tr.re (AV.tup [AV.int .i64 0,AV.int .i64 5]) []) (Tr.re (AV.tup [AV.int .i64 1,AV.int .i64 0]) [])) (Tr.br a12 (Tr.br (bif a6 then bif a10 then true else a11 else a11) (Tr.re (AV.tup [AV.int .i64 0,AV.int .i64 5]) []) (Tr.re (AV.tup [AV.int .i64 1,AV.int .i64 0]) []))
  (Tr.br (bif a6 then bif a13 then true else a14 else a14) (Tr.re (AV.tup [AV.int .i64 0,AV.int .i64 5]) []) (Tr.re (AV.tup [AV.int .i64 3,AV.int .i64 0]) [])))))))))) (Tr.br a4 (Tr.re (AV.tup [AV.int .i64 3,AV.int .i64 0]) []) (Tr.br a5 (Tr.br (bif a6 then bif a6 then a1.1 != a1.1 else false else false) (Tr.re (AV.tup [AV.int .i64 0,AV.int .i64 5]) [])
  (Tr.re (AV.tup [AV.int .i64 3,AV.int .i64 0]) [])) (Tr.br a8 (Tr.br (bif a6 then bif a6 then a1.1 != a1.1 else false else false) (Tr.re (AV.tup [AV.int .i64 0,AV.int .i64 5]) []) (Tr.re (AV.tup [AV.int .i64 3,AV.int .i64 0]) [])) (Tr.br a9 (Tr.br (bif a6 then bif a10 then true else a15 else a15) (Tr.re (AV.tup [AV.int .i64 0,AV.int .i64 5]) [])
  (Tr.re (AV.tup [AV.int .i64 1,AV.int .i64 0]) [])) (Tr.br a12 (Tr.br (bif a6 then bif a10 then true else a15 else a15) (Tr.re (AV.tup [AV.int .i64 0,AV.int .i64 5]) []) (Tr.re (AV.tup [AV.int .i64 1,AV.int .i64 0]) [])) (Tr.br (bif a6 then bif a13 then true else a16 else a16) (Tr.re (AV.tup [AV.int .i64 0,AV.int .i64 5]) []) (Tr.re (AV.tup [AV.int .i64 3,AV.int .i64 0]) []))))))))))))
theorem zdj (g:Sem Sh.expr→Sem zi.sl→Sem zg×Sem zg) (c:Sem Sh.expr→Sem zi.sl→Bool) (x0:Sem Sh.expr) (x1:Sem zi.sl):rn (Dx g c) 0 M8 Tryz.f187 [zz Sh.expr x0,zz zi.sl x1] []=(Xe g c x0 x1).map (lf Tryz.f187 Lo):=by kernel_rfl
def YN (_:Sem Sh.expr→Sem zi.sl→Sem zg×Sem zg) (_:Sem Sh.expr→Sem zi.sl→Bool):I5→Tr (I5 ⊕ ao)
 | .h5 l1 i6 z0=>
  let a0:=l1.getD i6.toNat (zj zi)
  Tr.br (decide (i6 < (↑l1.length:Int)))
  (Tr.chk (zI i6 l1.length)
   (Tr.br (a0.1==ze.s z0.1) (Tr.chk (zI i6 l1.length) (Tr.re (AV.tup [AV.int .i64 a0.2.1,AV.int .i64 0]) [])) (Tr.to (I5.h5 l1 (IntKind.i64.wrap (i6+1)) z0))))
  (Tr.re (AV.tup [AV.int .i64 0,AV.int .i64 4]) [])
theorem zfH (g:Sem Sh.expr→Sem zi.sl→Sem zg×Sem zg) (c:Sem Sh.expr→Sem zi.sl→Bool):∀ s,run (Dx g c) 0 M8 (Func.results Tryz.f187).toList 400 (zy Tryz.f187 (Lo s).1) (Lo s).2=(YN g c s).map (lf Tryz.f187 Lo)
 | .h5 l1 i6 z0=>by kernel_rfl
def lM (o:Option (zx (List.map some [zg,zg]))):Sem zg×Sem zg:=(fun r:zx (List.map some [zg,zg])=>(r.1,r.2.1)) (o.getD (cq [zg,zg]))
def Q9 (g:Sem Sh.expr→Sem zi.sl→Sem zg×Sem zg) (c:Sem Sh.expr→Sem zi.sl→Bool) (x0:Sem Sh.expr) (x1:Sem zi.sl):Option (zx (List.map some [zg,zg])):=zW [zg,zg] (YN g c) 100000000 (Xe g c x0 x1)
def fA:Nat→Sem Sh.expr→Sem zi.sl→Option (zx (List.map some [zg,zg]))
 | 0=>fun _ _=>none
 | n+1=>Q9 (fun x0 x1=>lM (fA n x0 x1)) fun x0 x1=>(fA n x0 x1).isSome
theorem Xm:zA y4.P 187 Tryz.f187 2:=aS (by kernel_rfl)
theorem He:∀ n,FK 187 (zG [Sh.expr,zi.sl] [zg,zg] (fun x=>(fA n x.1 x.2.1).isSome) fun x=>((lM (fA n x.1 x.2.1)).1,(lM (fA n x.1 x.2.1)).2,()))
 | 0=>dz ⟨Tryz.f187,Xm.1,Xm.2.1,Xm.2.2.1⟩ (fun _=>rfl)
 | n+1=>jq (E:=Dx (fun x0 x1=>lM (fA n x0 x1)) (fun x0 x1=>(fA n x0 x1).isSome)) (ks:=[Sh.expr,zi.sl]) (outs:=[zg,zg]) (keep:=M8) (gas:=400) (n:=100000000) (e:=Lo) (t:=YN (fun x0 x1=>lM (fA n x0 x1)) (fun x0 x1=>(fA n x0 x1).isSome)) (i:=fun x=>Xe (fun x0 x1=>lM (fA n x0 x1)) (fun x0 x1=>(fA n x0 x1).isSome) x.1 x.2.1) (Jr (He n)) (zfj _ _) (fun x=>zdj _ _ x.1 x.2.1) (zfH _ _) (fun _=>by kernel_rfl) (fun _=>by kernel_rfl)
def Is (x0:Sem Sh.expr) (x1:Sem zi.sl):Option (zx (List.map some [zg,zg])):=fA 16 x0 x1
def Q8 (x0:Sem Sh.expr) (x1:Sem zi.sl):Bool:=(Is x0 x1).isSome
def N0 (x0:Sem Sh.expr) (x1:Sem zi.sl):Sem zg×Sem zg:=lM (Is x0 x1)
def zaA:zF:=zG [Sh.expr,zi.sl] [zg,zg] (fun x=>Q8 x.1 x.2.1) fun x=>((N0 x.1 x.2.1).1,(N0 x.1 x.2.1).2,())
theorem VN:FK 187 zaA:=He 16

abbrev zea:=mn [(4,[2,3,5]),(9,[2,3,6]),(14,[2,3,7])]
inductive uv where
 | h4 (i5:Int) (z0:zu [CP.d zw]) (z1:zu [CP.d zw])
 | h9 (i6:Int) (z0:zu [CP.d zw]) (z1:zu [CP.d zw])
 | h14 (i7:Int) (z0:zu [CP.d zw]) (z1:zu [CP.d zw])
abbrev zgF:uv→Nat×St
 | .h4 i5 z0 z1=>(4,⟨tm 106 [(2,AV.ptr 0 0),(3,AV.ptr 1 0),(5,AV.int .i64 i5)],[AO.box (bK [] [CP.d zw] z0),AO.box (bK [] [CP.d zw] z1)]⟩)
 | .h9 i6 z0 z1=>(9,⟨tm 106 [(2,AV.ptr 0 0),(3,AV.ptr 1 0),(6,AV.int .i64 i6)],[AO.box (bK [] [CP.d zw] z0),AO.box (bK [] [CP.d zw] z1)]⟩)
 | .h14 i7 z0 z1=>(14,⟨tm 106 [(2,AV.ptr 0 0),(3,AV.ptr 1 0),(7,AV.int .i64 i7)],[AO.box (bK [] [CP.d zw] z0),AO.box (bK [] [CP.d zw] z1)]⟩)
def W6 (x0:Sem zw) (x1:Sem zw):Tr (uv ⊕ ao):=
 Tr.br
 (bif !x0.1==x1.1 then true
 else
  bif x0.2.2.1 != x1.2.2.1 then true
  else bif (↑(length x0.2.1):Int) != (↑(length x1.2.1):Int) then true else bif (↑(length x0.2.2.2.1):Int) != (↑(length x1.2.2.2.1):Int) then true else (↑(length x0.2.2.2.2.1):Int) != (↑(length x1.2.2.2.2.1):Int))
 (Tr.re (AV.kb false) []) (Tr.to (uv.h4 0 (x0,()) (x1,())))
def G0:uv→Tr (uv ⊕ ao)
 | .h4 i5 z0 z1=>
  let a0:=(↑(length z0.1.2.1):Int)
  let a1:=getD z0.1.2.1 i5.toNat (zj zi)
  let a2:=getD z1.1.2.1 i5.toNat (zj zi)
  Tr.br (decide (i5 < a0))
  (Tr.chk (zI i5 (length z0.1.2.1))
   (Tr.chk (zI i5 (length z1.1.2.1)) (Tr.br (!(a1.1==a2.1&&(a1.2.1==a2.2.1&&(a1.2.2==a2.2.2&&true)))) (Tr.re (AV.kb false) []) (Tr.to (uv.h4 (IntKind.i64.wrap (i5+1)) z0 z1)))))
  (Tr.to (uv.h9 0 z0 z1))
 | .h9 i6 z0 z1=>
  let a0:=(↑(length z0.1.2.2.2.1):Int)
  Tr.br (decide (i6 < a0))
  (Tr.chk (zI i6 (length z0.1.2.2.2.1))
   (Tr.chk (zI i6 (length z1.1.2.2.2.1)) (Tr.br (getD z0.1.2.2.2.1 i6.toNat (zj zg) != getD z1.1.2.2.2.1 i6.toNat (zj zg)) (Tr.re (AV.kb false) []) (Tr.to (uv.h9 (IntKind.i64.wrap (i6+1)) z0 z1)))))
  (Tr.to (uv.h14 0 z0 z1))
 | .h14 i7 z0 z1=>
  let a0:=(↑(length z0.1.2.2.2.2.1):Int)
  let a1:=getD z0.1.2.2.2.2.1 i7.toNat (zj zq)
  let a2:=getD z1.1.2.2.2.2.1 i7.toNat (zj zq)
  let a3:=zE z0.1.2.2.2.2.2
  let a4:=zE z1.1.2.2.2.2.2
  Tr.br (decide (i7 < a0))
  (Tr.chk (zI i7 (length z0.1.2.2.2.2.1))
   (Tr.chk (zI i7 (length z1.1.2.2.2.2.1)) (Tr.br (!(a1.1==a2.1&&(a1.2==a2.2&&true))) (Tr.re (AV.kb false) []) (Tr.to (uv.h14 (IntKind.i64.wrap (i7+1)) z0 z1)))))
  (Tr.chk (iX a3 a4) (Tr.re (AV.bool (gS a3 a4)) []))
def qu (x0:Sem zw) (x1:Sem zw):=zW [Sh.bool] G0 100000000 (W6 x0 x1)
def tT (x0:Sem zw) (x1:Sem zw):=(qu x0 x1).isSome
def lN (x0:Sem zw) (x1:Sem zw):=o1 (qu x0 x1)
def T4:=FT [zw,zw] [Sh.bool] fun x=>qu x.1 x.2.1
theorem KG:FK 60 T4:=jm.T1 (f:=Tryz.f60) (keep:=zea) (e:=zgF)

def Ls:=y4.addL [(124,RA),(122,Rz),(244,R4),(187,zaA),(60,T4)]
theorem fD:zl Ls:=jm.addL <| fc O3 <| fc O2 <| fc Pw <| fc VN <| fc KG jn
end
noncomputable section

def zh2 (x0:Sem zf) (x1:Sem zf):Tr (Empty ⊕ ao):=
 let a0:=(ff x0).1==(ff x1).1
 let a1:=(ff x0).2.1==(ff x1).2.1
 Tr.chk (tR x0)
 (Tr.chk (tR x1)
  (Tr.br (a0&&(a1&&((ff x0).2.2==(ff x1).2.2&&true))) (Tr.re (AV.int .i64 0) []) (Tr.br (bif decide ((ff x0).1 < (ff x1).1) then true else bif a0 then bif decide ((ff x0).2.1 < (ff x1).2.1) then true else bif a1 then Op.bytesLess (ff x0).2.2 (ff x1).2.2 else false else false) (Tr.re (AV.int .i64 (-1)) []) (Tr.re (AV.int .i64 1) []))))
def NX (x0:Sem zf) (x1:Sem zf):=zW [zg] t0 100000000 (zh2 x0 x1)
def zah:=FT [zf,zf] [zg] fun x=>NX x.1 x.2.1
theorem Vs:FK 67 zah:=fD.T1 (f:=Tryz.f67) (keep:=k0) (e:=e0)

def zdK (x0:Sem zf) (x1:Sem zf):Tr (Empty ⊕ ao):=
 Tr.chk (tR x0)
 (Tr.chk (tR x1)
  (Tr.re (AV.bool (bif (ff x0).1==0 then true else bif (ff x1).1==0 then true else (ff x0).1 != (ff x1).1)) []))
def NY (x0:Sem zf) (x1:Sem zf):=zW [Sh.bool] t0 100000000 (zdK x0 x1)
def Si:=FT [zf,zf] [Sh.bool] fun x=>NY x.1 x.2.1
theorem PJ:FK 246 Si:=fD.T1 (f:=Tryz.f246) (keep:=k0) (e:=e0)

def Tk (x0:Sem zf) (x1:Sem zf):Tr (Empty ⊕ ao):=
 Tr.chk (nb x0 false&&bif qo x0 false then true else nb x1 false)
 (Tr.br (bif qo x0 false then true else qo x1 false)
  (Tr.chk true (Tr.re (AV.agg [AV.int .i64 (bH false).1,AV.int .i64 (bH false).2.1,AV.str (bH false).2.2]) []))
  (Tr.chk (nb x0 true&&bif qo x0 true then nb x1 true else true) (Tr.br (bif qo x0 true then qo x1 true else false) (Tr.chk true (Tr.re (AV.agg [AV.int .i64 (bH true).1,AV.int .i64 (bH true).2.1,AV.str (bH true).2.2]) [])) (Tr.re (AV.agg [AV.int .i64 0,AV.int .i64 0,AV.str []]) []))))
def Gw (x0:Sem zf) (x1:Sem zf):=zW [zf] t0 100000000 (Tk x0 x1)
def Yv (x0:Sem zf) (x1:Sem zf):=(Gw x0 x1).isSome
def zfO (x0:Sem zf) (x1:Sem zf):=o1 (Gw x0 x1)
def R8:=FT [zf,zf] [zf] fun x=>Gw x.1 x.2.1
theorem PA:FK 190 R8:=fD.T1 (f:=Tryz.f190) (keep:=k0) (e:=e0)

def zdH (x0:Sem zf) (x1:Sem zf):Tr (Empty ⊕ ao):=
 Tr.chk (nb x0 true&&bif qo x0 true then true else nb x1 true)
 (Tr.br (bif qo x0 true then true else qo x1 true)
  (Tr.chk true (Tr.re (AV.agg [AV.int .i64 (bH true).1,AV.int .i64 (bH true).2.1,AV.str (bH true).2.2]) []))
  (Tr.chk (nb x0 false&&bif qo x0 false then nb x1 false else true) (Tr.br (bif qo x0 false then qo x1 false else false) (Tr.chk true (Tr.re (AV.agg [AV.int .i64 (bH false).1,AV.int .i64 (bH false).2.1,AV.str (bH false).2.2]) [])) (Tr.re (AV.agg [AV.int .i64 0,AV.int .i64 0,AV.str []]) []))))
def zfP (x0:Sem zf) (x1:Sem zf):=zW [zf] t0 100000000 (zdH x0 x1)
def R9:=FT [zf,zf] [zf] fun x=>zfP x.1 x.2.1
theorem PB:FK 191 R9:=fD.T1 (f:=Tryz.f191) (keep:=k0) (e:=e0)

def zdG (x0:Sem zf):Tr (Empty ⊕ ao):=
 Tr.chk (nb x0 true)
 (Tr.br (qo x0 true)
  (Tr.chk true (Tr.re (AV.agg [AV.int .i64 (bH false).1,AV.int .i64 (bH false).2.1,AV.str (bH false).2.2]) []))
  (Tr.chk (nb x0 false) (Tr.br (qo x0 false) (Tr.chk true (Tr.re (AV.agg [AV.int .i64 (bH true).1,AV.int .i64 (bH true).2.1,AV.str (bH true).2.2]) [])) (Tr.re (AV.agg [AV.int .i64 0,AV.int .i64 0,AV.str []]) []))))
def Yx (x0:Sem zf):=zW [zf] t0 100000000 (zdG x0)
def R7:=FT [zf] [zf] fun x=>Yx x.1
theorem Pz:FK 189 R7:=fD.T1 (f:=Tryz.f189) (keep:=k0) (e:=e0)

def zh8 (x0:Sem Sh.expr):Tr (Empty ⊕ ao):=
 let a0:=N1 (zE x0) 12
 Tr.chk (It (zE x0) 12&&bif a0 then Eo (zE x0) else true) (Tr.re (AV.bool (bif a0 then decide (Iv (zE x0)≤60) else false)) [])
def Gz (x0:Sem Sh.expr):=zW [Sh.bool] t0 100000000 (zh8 x0)
def Gy (x0:Sem Sh.expr):=(Gz x0).isSome
def NZ (x0:Sem Sh.expr):=o1 (Gz x0)
def zaz:=FT [Sh.expr] [Sh.bool] fun x=>Gz x.1
theorem VM:FK 186 zaz:=fD.T1 (f:=Tryz.f186) (keep:=k0) (e:=e0)

def Lt:=Ls.addL [(67,zah),(246,Si),(190,R8),(191,R9),(189,R7),(186,zaz)]
theorem vt:zl Lt:=fD.addL <| fc Vs <| fc PJ <| fc PA <| fc PB <| fc Pz <| fc VM <| jn
end
noncomputable section

abbrev XE:=mn [(2,[0,3])]
inductive yw where
 | h2 (i0:Sem zg) (s3:List UInt8)
abbrev zcL:yw→Nat×St
 | .h2 i0 s3=>(2,⟨tm 21 [(0,AV.int .i64 i0),(3,AV.str s3)],[]⟩)
def zdJ (x0:Sem zg):Tr (yw ⊕ ao):=
 Tr.to (yw.h2 x0 [])
def zf3:yw→Tr (yw ⊕ ao)
 | .h2 i0 s3=>
  let a0:=iE [IntKind.u8.wrap (IntKind.i64.wrap (48 - IntKind.i64.wrap (Int.tmod i0 10)))]
  Tr.br (bif decide (i0 < 0) then true else s3==[])
  (Tr.chk true (Tr.chk (decide (length a0+s3.length≤1099511627776)) (Tr.chk true (Tr.to (yw.h2 (IntKind.i64.wrap (Int.tdiv i0 10)) (a0++s3))))))
  (Tr.re (AV.str s3) [])
def rU (x0:Sem zg):=zW [Sh.str] zf3 100000000 (zdJ x0)
def AG (x0:Sem zg):=(rU x0).isSome
def wW (x0:Sem zg):=o1 (rU x0)
def Sf:=FT [zg] [Sh.str] fun x=>rU x.1
theorem PH:FK 275 Sf:=vt.T1 (f:=Tryz.f275) (keep:=XE) (e:=zcL)

def Lu:=Lt.add 275 Sf
theorem vu:zl Lu:=vt.add PH
end
noncomputable section

abbrev Xv:=mn [(13,[1,3,4])]
inductive up where
 | h13 (s3:List UInt8) (i4:Int) (z0:zu [CP.d zf])
abbrev zcF:up→Nat×St
 | .h13 s3 i4 z0=>(13,⟨tm 54 [(1,AV.ptr 0 0),(3,AV.str s3),(4,AV.int .i64 i4)],[AO.box (bK [] [CP.d zf] z0)]⟩)
def zdx (x0:Sem zf):Tr (up ⊕ ao):=
 let a0:=IntKind.i64.wrap (0 - x0.2.1)
 Tr.chk (wR x0)
 (Tr.br (!Em x0) (Tr.re (AV.str []) [])
  (Tr.br (x0.1==0) (Tr.re (AV.str [78,85,76,76]) []) (Tr.br (x0.1==1) (Tr.br (decide (x0.2.1 < 0)) (Tr.chk (AG x0.2.1) (Tr.chk (decide ([45].length+length (wW x0.2.1)≤1099511627776)) (Tr.re (AV.str ([45]++wW x0.2.1)) []))) (Tr.chk (AG a0) (Tr.re (AV.str (wW a0)) []))) (Tr.br (x0.1==2) (Tr.to (up.h13 [39] 0 (x0,())))
  (Tr.br (x0.2.1==1) (Tr.re (AV.str [84,82,85,69]) []) (Tr.re (AV.str [70,65,76,83,69]) []))))))
def zfY:up→Tr (up ⊕ ao)
 | .h13 s3 i4 z0=>
  let a0:=(↑(length z0.1.2.2):Int)
  let a1:=IntKind.i64.wrap (i4+1)
  let a2:=List.take (a1.toNat - i4.toNat) (List.drop i4.toNat z0.1.2.2)
  let a3:=s3++a2
  Tr.br (decide (i4 < a0))
  (Tr.chk (decide (0≤i4)&&decide (i4≤a1)&&decide (a1≤a0))
   (Tr.chk (decide (s3.length+a2.length≤1099511627776)) (Tr.chk (zI i4 (length z0.1.2.2)) (Tr.br ((↑(getD z0.1.2.2 i4.toNat 0).toNat:Int)==39) (Tr.chk (decide (length a3+[39].length≤1099511627776)) (Tr.to (up.h13 (a3++[39]) a1 z0))) (Tr.to (up.h13 a3 a1 z0))))))
  (Tr.chk (decide (s3.length+[39].length≤1099511627776)) (Tr.re (AV.str (s3++[39])) []))
def B4 (x0:Sem zf):=zW [Sh.str] zfY 100000000 (zdx x0)
def nV (x0:Sem zf):=(B4 x0).isSome
def rT (x0:Sem zf):=o1 (B4 x0)
def RQ:=FT [zf] [Sh.str] fun x=>B4 x.1
theorem Pj:FK 241 RQ:=vu.T1 (f:=Tryz.f241) (keep:=Xv) (e:=zcF)

def BD:=Lu.add 241 RQ
theorem vA:zl BD:=vu.add Pj
end
noncomputable section

def By (g:Sem Sh.expr→Sem Sh.str) (c:Sem Sh.expr→Bool):bx:=BD.add 242 (zG [Sh.expr] [Sh.str] (fun x=>c x.1) fun x=>(g x.1,()))
theorem Fv {g:Sem Sh.expr→Sem Sh.str} {c:Sem Sh.expr→Bool} (hg:FK 242 (zG [Sh.expr] [Sh.str] (fun x=>c x.1) fun x=>(g x.1,()))):zl (By g c):=vA.add hg
abbrev MX:Nat→aj:=fun _=>{ }
theorem XW (g:Sem Sh.expr→Sem Sh.str) (c:Sem Sh.expr→Bool):zA (By g c).P 242 Tryz.f242 1:=aS (by kernel_rfl)
def Mp (g:Sem Sh.expr→Sem Sh.str) (c:Sem Sh.expr→Bool) (x0:Sem Sh.expr):Tr (Empty ⊕ ao):=
 let a0:=zI 0 (ze.l x0).length
 let a1:=zE ((ze.l x0).getD (toNat 0) (zj Sh.expr))
 let a2:=c a1
 let a3:=g a1
 let a4:=[40,78,79,84,32]++a3
 let a5:=decide ([40].length+length a3≤1099511627776)
 let a6:=[40]++a3
 let a7:=zI 1 (ze.l x0).length
 let a8:=zE ((ze.l x0).getD (toNat 1) (zj Sh.expr))
 let a9:=c a8
 let a10:=a6++[32,65,78,68,32]
 let a11:=g a8
 let a12:=a10++a11
 let a13:=a6++[32,79,82,32]
 let a14:=a13++a11
 let a15:=a6++[32]
 let a16:=a15++ze.op x0
 let a17:=a16++[32]
 let a18:=a17++a11
 Tr.br (ze.op x0==[108,105,116]) (Tr.chk (nV (ze.v x0)) (Tr.re (AV.str (rT (ze.v x0))) []))
 (Tr.br (ze.op x0==[99,111,108]) (Tr.re (AV.str (ze.s x0)) [])
  (Tr.br (ze.op x0==[110,111,116]) (Tr.chk a0 (Tr.chk a2 (Tr.chk (decide ([40,78,79,84,32].length+length a3≤1099511627776)) (Tr.chk (decide (length a4+[41].length≤1099511627776)) (Tr.re (AV.str (a4++[41])) []))))) (Tr.br (ze.op x0==[110,117,108,108]) (Tr.chk a0 (Tr.chk a2 (Tr.chk a5
  (Tr.chk (decide (length a6+[32,73,83,32,78,85,76,76,41].length≤1099511627776)) (Tr.re (AV.str (a6++[32,73,83,32,78,85,76,76,41])) []))))) (Tr.br (ze.op x0==[97,110,100]) (Tr.chk a0 (Tr.chk a2 (Tr.chk a5 (Tr.chk (decide (length a6+[32,65,78,68,32].length≤1099511627776)) (Tr.chk a7 (Tr.chk a9
  (Tr.chk (decide (length a10+length a11≤1099511627776)) (Tr.chk (decide (length a12+[41].length≤1099511627776)) (Tr.re (AV.str (a12++[41])) []))))))))) (Tr.br (ze.op x0==[111,114]) (Tr.chk a0 (Tr.chk a2 (Tr.chk a5 (Tr.chk (decide (length a6+[32,79,82,32].length≤1099511627776)) (Tr.chk a7 (Tr.chk a9
  (Tr.chk (decide (length a13+length a11≤1099511627776)) (Tr.chk (decide (length a14+[41].length≤1099511627776)) (Tr.re (AV.str (a14++[41])) []))))))))) (Tr.chk a0 (Tr.chk a2 (Tr.chk a5 (Tr.chk (decide (length a6+[32].length≤1099511627776)) (Tr.chk (decide (length a15+length (ze.op x0)≤1099511627776))
  (Tr.chk (decide (length a16+[32].length≤1099511627776)) (Tr.chk a7 (Tr.chk a9 (Tr.chk (decide (length a17+length a11≤1099511627776)) (Tr.chk (decide (length a18+[41].length≤1099511627776)) (Tr.re (AV.str (a18++[41])) []))))))))))))))))
theorem WH (g:Sem Sh.expr→Sem Sh.str) (c:Sem Sh.expr→Bool) (x0:Sem Sh.expr):rn (By g c) 0 MX Tryz.f242 [zz Sh.expr x0] []=(Mp g c x0).map (lf Tryz.f242 e0):=by kernel_rfl
def qr (o:Option (zx (List.map some [Sh.str]))):Sem Sh.str:=(fun r:zx (List.map some [Sh.str])=>r.1) (o.getD (cq [Sh.str]))
def Q7 (g:Sem Sh.expr→Sem Sh.str) (c:Sem Sh.expr→Bool) (x0:Sem Sh.expr):Option (zx (List.map some [Sh.str])):=zW [Sh.str] t0 100000000 (Mp g c x0)
def iY:Nat→Sem Sh.expr→Option (zx (List.map some [Sh.str]))
 | 0=>fun _=>none
 | n+1=>Q7 (fun x0=>qr (iY n x0)) fun x0=>(iY n x0).isSome
theorem MJ:zA BD.P 242 Tryz.f242 1:=aS (by kernel_rfl)
theorem CU:∀ n,FK 242 (zG [Sh.expr] [Sh.str] (fun x=>(iY n x.1).isSome) fun x=>(qr (iY n x.1),()))
 | 0=>dz ⟨Tryz.f242,MJ.1,MJ.2.1,MJ.2.2.1⟩ (fun _=>rfl)
 | n+1=>jq (E:=By (fun x0=>qr (iY n x0)) (fun x0=>(iY n x0).isSome)) (ks:=[Sh.expr]) (outs:=[Sh.str]) (keep:=MX) (gas:=400) (n:=100000000) (e:=e0) (t:=t0) (i:=fun x=>Mp (fun x0=>qr (iY n x0)) (fun x0=>(iY n x0).isSome) x.1) (Fv (CU n)) (XW _ _) (fun x=>WH _ _ x.1) (Kw _ _ _ _ _) (fun _=>by kernel_rfl) (fun _=>by kernel_rfl)
def Ir (x0:Sem Sh.expr):Option (zx (List.map some [Sh.str])):=iY 16 x0
def tS (x0:Sem Sh.expr):Bool:=(Ir x0).isSome
def rV (x0:Sem Sh.expr):Sem Sh.str:=qr (Ir x0)
def RR:zF:=zG [Sh.expr] [Sh.str] (fun x=>tS x.1) fun x=>(rV x.1,())
theorem Pk:FK 242 RR:=CU 16

def BE:=BD.add 242 RR
theorem lB:zl BE:=vA.add Pk
end
noncomputable section

abbrev XB:=mn [(6,[1,3])]
inductive yv where
 | h6 (i3:Int) (z0:zu [CP.d zq])
abbrev zcK:yv→Nat×St
 | .h6 i3 z0=>(6,⟨tm 82 [(1,AV.ptr 0 0),(3,AV.int .i64 i3)],[AO.box (bK [] [CP.d zq] z0)]⟩)
def zdE (x0:Sem zq):Tr (yv ⊕ ao):=
 let a0:=(2,0,x0.2)
 Tr.br (x0.1==1) (Tr.chk (tY x0.2) (Tr.re (AV.bool (wZ x0.2)) []))
 (Tr.br (x0.1==2) (Tr.to (yv.h6 0 (x0,())))
  (Tr.br (x0.1==3) (Tr.chk (wR a0) (Tr.re (AV.bool (Em a0)) [])) (Tr.br (x0.1==4) (Tr.re (AV.bool (bif x0.2==[40] then true else bif x0.2==[41] then true else bif x0.2==[44] then true else bif x0.2==[61] then true else bif x0.2==[60] then true else bif x0.2==[43] then true else bif x0.2==[45] then true else x0.2==[42])) []) (Tr.re (AV.kb false) []))))
def zf2:yv→Tr (yv ⊕ ao)
 | .h6 i3 z0=>
  let a0:=(↑(length z0.1.2):Int)
  let a1:=(↑(getD z0.1.2 i3.toNat 0).toNat:Int)
  Tr.br (decide (i3 < a0))
  (Tr.chk (zI i3 (length z0.1.2))
   (Tr.chk (gf a1) (Tr.br (!jb a1) (Tr.re (AV.kb false) []) (Tr.to (yv.h6 (IntKind.i64.wrap (i3+1)) z0)))))
  (Tr.re (AV.bool (bif decide (1≤a0) then decide (a0≤19) else false)) [])
def GG (x0:Sem zq):=zW [Sh.bool] zf2 100000000 (zdE x0)
def nf (x0:Sem zq):=(GG x0).isSome
def sY (x0:Sem zq):=o1 (GG x0)
def R3:=FT [zq] [Sh.bool] fun x=>GG x.1
theorem Pv:FK 180 R3:=lB.T1 (f:=Tryz.f180) (keep:=XB) (e:=zcK)

abbrev MT:Nat→aj:=fun _=>{ }
theorem XR:zA BE.P 112 Tryz.f112 2:=aS (by kernel_rfl)
def Mm (y:zu zK) (x0:TS):Tr (Empty ⊕ ao):=
 let a0:=(y.1,y.2.1,y.2.2.1,())
 let a1:=bq a0 x0
 Tr.chk (aU a0 x0)
 (Tr.br (!a1.1) (Tr.re (AV.agg [AV.str [],AV.int .i64 0,AV.int .i64 0,AV.str [],AV.str [],AV.nils]) (cj zK a1.2))
  (Tr.br (x0==[87,72,69,82,69]) Tr.err (Tr.chk (zQ (a1.2.1,a1.2.2.1,a1.2.2.2.1,()) [40]) Tr.err)))
theorem WB (y:zu zK) (x0:TS):rn BE 1 MT Tryz.f112 [AV.ptr 0 0,zz Sh.str x0] (cj zK y)=(Mm y x0).map (lf Tryz.f112 e0):=by kernel_rfl
def Ix (y:zu zK) (x0:TS):Option (zx (List.map some [Sh.expr])×zu zK):=yj [Sh.expr] zK t0 100000000 (Mm y x0)
def cD (y:zu zK) (x0:TS):Bool:=(Ix y x0).isSome
def dr (y:zu zK) (x0:TS):(Sem Sh.expr)×zu zK:=(fun r:zx (List.map some [Sh.expr])×zu zK=>(r.1.1,r.2)) ((Ix y x0).getD (cq [Sh.expr],fX zK))
def RH:zF:=xY zK [Sh.str] [Sh.expr] zK (fun y x=>cD y x.1) fun y x=>(((dr y x.1).1,()),(dr y x.1).2)
theorem Pa:FK 112 RH:=qZ (ps:=zK) (ks:=[Sh.str]) (outs:=[Sh.expr]) (keep:=MT) (gas:=400) (n:=100000000) (e:=e0) (t:=t0) (i:=fun y x=>Mm y x.1) lB XR (fun y x=>WB y x.1) (Kw _ _ _ _ _) (fun _ _=>by kernel_rfl) (fun _ _=>by kernel_rfl)

def zh5 (x0:TS):Tr (Empty ⊕ ao):=
 Tr.chk (tY x0&&bif wZ x0 then GJ x0 else true) (Tr.re (AV.bool (bif wZ x0 then !N9 x0 else false)) [])
def Cc (x0:TS):=zW [Sh.bool] t0 100000000 (zh5 x0)
def eX (x0:TS):=(Cc x0).isSome
def gU (x0:TS):=o1 (Cc x0)
def zas:=FT [Sh.str] [Sh.bool] fun x=>Cc x.1
theorem VF:FK 118 zas:=lB.T1 (f:=Tryz.f118) (keep:=k0) (e:=e0)

def S3:=BE.addL [(180,R3),(112,RH),(118,zas)]
theorem nI:zl S3:=lB.addL <| fc Pv <| fc Pa <| fc VF jn
end
noncomputable section

abbrev zeq:=mn [(3,[0,4,5]),(11,[0,4,5,6,7,8]),(15,[0,4,5,6,7,8]),(20,[0,4,5,8])]
inductive eF where
 | h3 (s0:TS) (i5:Int)
 | h11 (s0:TS) (i5:Int) (i6:Int) (i7:Int) (z0:zu [CP.d zq])
 | h15 (s0:TS) (i5:Int) (i6:Int) (i7:Int) (z0:zu [CP.d zq])
 | h20 (s0:TS) (i5:Int) (z0:zu [CP.d zq])
 | h3b (s0:TS) (i5:Int) (lh_0:LF)
 | h11b (s0:TS) (i5:Int) (i6:Int) (i7:Int) (z1:zu [CP.d zq]) (lh_0:LF)
 | h15b (s0:TS) (i5:Int) (i6:Int) (i7:Int) (z1:zu [CP.d zq]) (lh_0:LF)
 | h20b (s0:TS) (i5:Int) (z1:zu [CP.d zq]) (lh_0:LF)
abbrev zgP:eF→Nat×St
 | .h3 s0 i5=>(3,⟨tm 131 [(0,AV.str s0),(4,AV.nils),(5,AV.int .i64 i5)],[]⟩)
 | .h11 s0 i5 i6 i7 z0=>(11,⟨tm 131 [(0,AV.str s0),(4,AV.nils),(5,AV.int .i64 i5),(6,AV.int IntKind.u8 i6),(7,AV.int .i64 i7),(8,AV.ptr 0 0)],[AO.box (bK [] [CP.d zq] z0)]⟩)
 | .h15 s0 i5 i6 i7 z0=>(15,⟨tm 131 [(0,AV.str s0),(4,AV.nils),(5,AV.int .i64 i5),(6,AV.int IntKind.u8 i6),(7,AV.int .i64 i7),(8,AV.ptr 0 0)],[AO.box (bK [] [CP.d zq] z0)]⟩)
 | .h20 s0 i5 z0=>(20,⟨tm 131 [(0,AV.str s0),(4,AV.nils),(5,AV.int .i64 i5),(8,AV.ptr 0 0)],[AO.box (bK [] [CP.d zq] z0)]⟩)
 | .h3b s0 i5 lh_0=>(3,⟨tm 131 [(0,AV.str s0),(4,AV.vec 0),(5,AV.int .i64 i5)],[AO.vec zq lh_0]⟩)
 | .h11b s0 i5 i6 i7 z1 lh_0=>(11,⟨tm 131 [(0,AV.str s0),(4,AV.vec 0),(5,AV.int .i64 i5),(6,AV.int IntKind.u8 i6),(7,AV.int .i64 i7),(8,AV.ptr 1 0)],[AO.vec zq lh_0,AO.box (bK [] [CP.d zq] z1)]⟩)
 | .h15b s0 i5 i6 i7 z1 lh_0=>(15,⟨tm 131 [(0,AV.str s0),(4,AV.vec 0),(5,AV.int .i64 i5),(6,AV.int IntKind.u8 i6),(7,AV.int .i64 i7),(8,AV.ptr 1 0)],[AO.vec zq lh_0,AO.box (bK [] [CP.d zq] z1)]⟩)
 | .h20b s0 i5 z1 lh_0=>(20,⟨tm 131 [(0,AV.str s0),(4,AV.vec 0),(5,AV.int .i64 i5),(8,AV.ptr 1 0)],[AO.vec zq lh_0,AO.box (bK [] [CP.d zq] z1)]⟩)
def zh7 (x0:TS):Tr (eF ⊕ ao):=
 Tr.to (eF.h3 x0 0)
def ziH:eF→Tr (eF ⊕ ao)
 | .h3 s0 i5=>
  let a0:=(↑(getD s0 i5.toNat 0).toNat:Int)
  let a1:=IntKind.i64.wrap (i5+1)
  let a2:=List.take (a1.toNat - i5.toNat) (List.drop i5.toNat s0)
  let a3:=((4,a2),())
  let a4:=(4,a2)
  let a5:=[a4]
  Tr.br (decide (i5 < (↑(length s0):Int)))
  (Tr.chk (zI i5 (length s0))
   (Tr.br (bif a0==32 then true else a0==10) (Tr.to (eF.h3 s0 a1)) (Tr.chk (decide (0≤i5)&&decide (i5≤a1)&&decide (a1≤(↑(length s0):Int))) (Tr.chk (kY a0) (Tr.br (qw a0) (Tr.to (eF.h11 s0 a1 a0 i5 a3)) (Tr.chk (gf a0) (Tr.br (jb a0) (Tr.to (eF.h15 s0 a1 a0 i5 a3)) (Tr.br (a0==39) (Tr.to (eF.h20 s0 a1 ((3,[]),()))) (Tr.chk (nf a4)
   (Tr.br (!sY a4) (Tr.re (AV.tup [AV.nils,AV.kb false]) []) (Tr.chk (decide (a5.length≤1073741824)) (Tr.to (eF.h3b s0 a1 a5)))))))))))))
  (Tr.re (AV.tup [AV.nils,AV.bool true]) [])
 | .h11 s0 i5 i6 i7 z0=>
  let a0:=decide (i5 < (↑(length s0):Int))
  let a1:=(↑(getD s0 i5.toNat 0).toNat:Int)
  let a2:=List.take (i5.toNat - i7.toNat) (List.drop i7.toNat s0)
  let a3:=(1,a2)
  let a4:=[a3]
  Tr.chk (bif a0 then zI i5 (length s0)&&tZ a1 else true)
  (Tr.br (bif a0 then GI a1 else false) (Tr.to (eF.h11 s0 (IntKind.i64.wrap (i5+1)) i6 i7 z0))
   (Tr.chk (decide (0≤i7)&&decide (i7≤i5)&&decide (i5≤(↑(length s0):Int))) (Tr.chk (gf i6) (Tr.br (jb i6) (Tr.to (eF.h15 s0 i5 i6 i7 ((1,a2),()))) (Tr.br (i6==39) (Tr.to (eF.h20 s0 i5 ((3,[]),()))) (Tr.chk (nf a3) (Tr.br (!sY a3) (Tr.re (AV.tup [AV.nils,AV.kb false]) []) (Tr.chk (decide (a4.length≤1073741824)) (Tr.to (eF.h3b s0 i5 a4))))))))))
 | .h15 s0 i5 i6 i7 z0=>
  let a0:=decide (i5 < (↑(length s0):Int))
  let a1:=(↑(getD s0 i5.toNat 0).toNat:Int)
  let a2:=(2,List.take (i5.toNat - i7.toNat) (List.drop i7.toNat s0))
  let a3:=[a2]
  Tr.chk (bif a0 then zI i5 (length s0)&&gf a1 else true)
  (Tr.br (bif a0 then jb a1 else false) (Tr.to (eF.h15 s0 (IntKind.i64.wrap (i5+1)) i6 i7 z0))
   (Tr.chk (decide (0≤i7)&&decide (i7≤i5)&&decide (i5≤(↑(length s0):Int))) (Tr.br (i6==39) (Tr.to (eF.h20 s0 i5 ((3,[]),()))) (Tr.chk (nf a2) (Tr.br (!sY a2) (Tr.re (AV.tup [AV.nils,AV.kb false]) []) (Tr.chk (decide (a3.length≤1073741824)) (Tr.to (eF.h3b s0 i5 a3))))))))
 | .h20 s0 i5 z0=>
  let a0:=decide (i5 < (↑(length s0):Int))
  let a1:=(↑(getD s0 i5.toNat 0).toNat:Int)
  let a2:=a1 != 39
  let a3:=IntKind.i64.wrap (i5+1)
  let a4:=decide (a3 < (↑(length s0):Int))
  let a5:=List.take (a3.toNat - i5.toNat) (List.drop i5.toNat s0)
  let a6:=((z0.1.1,z0.1.2++a5),())
  Tr.chk (bif a0 then zI i5 (length s0)&&bif a2 then true else bif a4 then zI a3 (length s0) else true else true)
  (Tr.br (bif a0 then bif a2 then true else bif a4 then (↑(getD s0 a3.toNat 0).toNat:Int)==39 else false else false)
   (Tr.chk (decide (0≤i5)&&decide (i5≤a3)&&decide (a3≤(↑(length s0):Int))) (Tr.chk (decide (length z0.1.2+a5.length≤1099511627776)) (Tr.chk (zI i5 (length s0)) (Tr.br (a1==39) (Tr.to (eF.h20 s0 (IntKind.i64.wrap (a3+1)) a6)) (Tr.to (eF.h20 s0 a3 a6))))))
   (Tr.br (decide (i5 ≥ (↑(length s0):Int))) (Tr.re (AV.tup [AV.nils,AV.kb false]) []) (Tr.chk (nf z0.1) (Tr.br (!sY z0.1) (Tr.re (AV.tup [AV.nils,AV.kb false]) []) (Tr.chk (decide ([z0.1].length≤1073741824)) (Tr.to (eF.h3b s0 a3 [z0.1])))))))
 | .h3b s0 i5 lh_0=>
  let a0:=(↑(getD s0 i5.toNat 0).toNat:Int)
  let a1:=IntKind.i64.wrap (i5+1)
  let a2:=List.take (a1.toNat - i5.toNat) (List.drop i5.toNat s0)
  let a3:=((4,a2),())
  let a4:=(4,a2)
  let a5:=[a4]
  Tr.br (decide (i5 < (↑(length s0):Int)))
  (Tr.chk (zI i5 (length s0))
   (Tr.br (bif a0==32 then true else a0==10) (Tr.to (eF.h3b s0 a1 lh_0)) (Tr.chk (decide (0≤i5)&&decide (i5≤a1)&&decide (a1≤(↑(length s0):Int))) (Tr.chk (kY a0) (Tr.br (qw a0) (Tr.to (eF.h11b s0 a1 a0 i5 a3 lh_0)) (Tr.chk (gf a0) (Tr.br (jb a0) (Tr.to (eF.h15b s0 a1 a0 i5 a3 lh_0)) (Tr.br (a0==39) (Tr.to (eF.h20b s0 a1 ((3,[]),()) lh_0))
   (Tr.chk (nf a4) (Tr.br (!sY a4) (Tr.re (AV.tup [AV.nils,AV.kb false]) []) (Tr.chk (decide (lh_0.length+a5.length≤1073741824)) (Tr.to (eF.h3b s0 a1 (lh_0++a5))))))))))))))
  (Tr.re (AV.tup [AV.vec 0,AV.bool (decide ((↑lh_0.length:Int)≤400))]) [AO.vec zq lh_0])
 | .h11b s0 i5 i6 i7 z1 lh_0=>
  let a0:=decide (i5 < (↑(length s0):Int))
  let a1:=(↑(getD s0 i5.toNat 0).toNat:Int)
  let a2:=List.take (i5.toNat - i7.toNat) (List.drop i7.toNat s0)
  let a3:=(1,a2)
  let a4:=[a3]
  Tr.chk (bif a0 then zI i5 (length s0)&&tZ a1 else true)
  (Tr.br (bif a0 then GI a1 else false) (Tr.to (eF.h11b s0 (IntKind.i64.wrap (i5+1)) i6 i7 z1 lh_0))
   (Tr.chk (decide (0≤i7)&&decide (i7≤i5)&&decide (i5≤(↑(length s0):Int))) (Tr.chk (gf i6) (Tr.br (jb i6) (Tr.to (eF.h15b s0 i5 i6 i7 ((1,a2),()) lh_0)) (Tr.br (i6==39) (Tr.to (eF.h20b s0 i5 ((3,[]),()) lh_0)) (Tr.chk (nf a3) (Tr.br (!sY a3) (Tr.re (AV.tup [AV.nils,AV.kb false]) [])
   (Tr.chk (decide (lh_0.length+a4.length≤1073741824)) (Tr.to (eF.h3b s0 i5 (lh_0++a4)))))))))))
 | .h15b s0 i5 i6 i7 z1 lh_0=>
  let a0:=decide (i5 < (↑(length s0):Int))
  let a1:=(↑(getD s0 i5.toNat 0).toNat:Int)
  let a2:=(2,List.take (i5.toNat - i7.toNat) (List.drop i7.toNat s0))
  let a3:=[a2]
  Tr.chk (bif a0 then zI i5 (length s0)&&gf a1 else true)
  (Tr.br (bif a0 then jb a1 else false) (Tr.to (eF.h15b s0 (IntKind.i64.wrap (i5+1)) i6 i7 z1 lh_0))
   (Tr.chk (decide (0≤i7)&&decide (i7≤i5)&&decide (i5≤(↑(length s0):Int))) (Tr.br (i6==39) (Tr.to (eF.h20b s0 i5 ((3,[]),()) lh_0)) (Tr.chk (nf a2) (Tr.br (!sY a2) (Tr.re (AV.tup [AV.nils,AV.kb false]) []) (Tr.chk (decide (lh_0.length+a3.length≤1073741824)) (Tr.to (eF.h3b s0 i5 (lh_0++a3)))))))))
 | .h20b s0 i5 z1 lh_0=>
  let a0:=decide (i5 < (↑(length s0):Int))
  let a1:=(↑(getD s0 i5.toNat 0).toNat:Int)
  let a2:=a1 != 39
  let a3:=IntKind.i64.wrap (i5+1)
  let a4:=decide (a3 < (↑(length s0):Int))
  let a5:=List.take (a3.toNat - i5.toNat) (List.drop i5.toNat s0)
  let a6:=((z1.1.1,z1.1.2++a5),())
  Tr.chk (bif a0 then zI i5 (length s0)&&bif a2 then true else bif a4 then zI a3 (length s0) else true else true)
  (Tr.br (bif a0 then bif a2 then true else bif a4 then (↑(getD s0 a3.toNat 0).toNat:Int)==39 else false else false)
   (Tr.chk (decide (0≤i5)&&decide (i5≤a3)&&decide (a3≤(↑(length s0):Int))) (Tr.chk (decide (length z1.1.2+a5.length≤1099511627776)) (Tr.chk (zI i5 (length s0)) (Tr.br (a1==39) (Tr.to (eF.h20b s0 (IntKind.i64.wrap (a3+1)) a6 lh_0)) (Tr.to (eF.h20b s0 a3 a6 lh_0))))))
   (Tr.br (decide (i5 ≥ (↑(length s0):Int))) (Tr.re (AV.tup [AV.nils,AV.kb false]) []) (Tr.chk (nf z1.1) (Tr.br (!sY z1.1) (Tr.re (AV.tup [AV.nils,AV.kb false]) []) (Tr.chk (decide (lh_0.length+[z1.1].length≤1073741824)) (Tr.to (eF.h3b s0 a3 (lh_0++[z1.1]))))))))
def GF (x0:TS):=zW [zq.sl,Sh.bool] ziH 100000000 (zh7 x0)
def N7 (x0:TS):=(GF x0).isSome
def AH (x0:TS):=o2 (GF x0)
def zaw:=FT [Sh.str] [zq.sl,Sh.bool] fun x=>GF x.1
theorem VJ:FK 105 zaw:=nI.T1 (f:=Tryz.f105) (keep:=zeq) (e:=zgP)

def zdv (x0:Sem Sh.expr) (x1:TS):Tr (Empty ⊕ ao):=
 let a0:=x1++[32,67,72,69,67,75,32,40,32]
 let a1:=a0++rV (zE x0)
 Tr.br (ze.op x0==[])
 (Tr.chk (iX (zE x0) (ze.mk [] (0,0,[]) [] [])) (Tr.re (AV.tup [AV.str [],AV.bool (gS (zE x0) (ze.mk [] (0,0,[]) [] []))]) []))
 (Tr.chk (Gy (zE x0))
  (Tr.br (!NZ (zE x0)) (Tr.re (AV.tup [AV.str [],AV.kb false]) []) (Tr.br (x1==[87,72,69,82,69]) (Tr.chk (tS (zE x0)) (Tr.chk (decide ([32,87,72,69,82,69,32].length+length (rV (zE x0))≤1099511627776)) (Tr.re (AV.tup [AV.str ([32,87,72,69,82,69,32]++rV (zE x0)),AV.kb true]) [])))
  (Tr.chk (decide (length x1+[32,67,72,69,67,75,32,40,32].length≤1099511627776)) (Tr.chk (tS (zE x0)) (Tr.chk (decide (length a0+length (rV (zE x0))≤1099511627776)) (Tr.chk (decide (length a1+[32,41].length≤1099511627776)) (Tr.re (AV.tup [AV.str (a1++[32,41]),AV.kb true]) []))))))))
def Cg (x0:Sem Sh.expr) (x1:TS):=zW [Sh.str,Sh.bool] t0 100000000 (zdv x0 x1)
def Cf (x0:Sem Sh.expr) (x1:TS):=(Cg x0 x1).isSome
def GM (x0:Sem Sh.expr) (x1:TS):=o2 (Cg x0 x1)
def RO:=FT [Sh.expr,Sh.str] [Sh.str,Sh.bool] fun x=>Cg x.1 x.2.1
theorem Ph:FK 239 RO:=nI.T1 (f:=Tryz.f239) (keep:=k0) (e:=e0)

abbrev Xw:=mn [(3,[0,4,5])]
inductive ur where
 | h3 (l0:LS) (s4:List UInt8) (i5:Int)
abbrev zcG:ur→Nat×St
 | .h3 l0 s4 i5=>(3,⟨tm 37 [(0,AV.sl Sh.str l0),(4,AV.str s4),(5,AV.int .i64 i5)],[]⟩)
def zdy (x0:Sem Sh.str.sl):Tr (ur ⊕ ao):=
 Tr.to (ur.h3 x0 [] 0)
def zfZ:ur→Tr (ur ⊕ ao)
 | .h3 l0 s4 i5=>
  let a0:=l0.getD i5.toNat (zj Sh.str)
  let a1:=s4++[32,44,32]
  let a2:=IntKind.i64.wrap (i5+1)
  let a3:=decide (1≤(↑l0.length:Int))
  Tr.br (decide (i5 < (↑l0.length:Int)))
  (Tr.chk (zI i5 l0.length)
   (Tr.chk (eX a0) (Tr.br (!gU a0) (Tr.re (AV.tup [AV.str [],AV.kb false]) []) (Tr.br (decide (i5 > 0)) (Tr.chk (decide (s4.length+[32,44,32].length≤1099511627776)) (Tr.chk (zI i5 l0.length) (Tr.chk (decide (length a1+length a0≤1099511627776)) (Tr.to (ur.h3 l0 (a1++a0) a2)))))
   (Tr.chk (zI i5 l0.length) (Tr.chk (decide (s4.length+length a0≤1099511627776)) (Tr.to (ur.h3 l0 (s4++a0) a2))))))))
  (Tr.re (AV.tup [AV.str (bif a3 then s4 else s4),AV.bool (bif a3 then decide ((↑l0.length:Int)≤8) else false)]) [])
def w6 (x0:Sem Sh.str.sl):=zW [Sh.str,Sh.bool] zfZ 100000000 (zdy x0)
def Oe (x0:Sem Sh.str.sl):=(w6 x0).isSome
def Re (x0:Sem Sh.str.sl):=o2 (w6 x0)
def RT:=FT [Sh.str.sl] [Sh.str,Sh.bool] fun x=>w6 x.1
theorem Pl:FK 243 RT:=nI.T1 (f:=Tryz.f243) (keep:=Xw) (e:=zcG)

def S4:=S3.addL [(105,zaw),(239,RO),(243,RT)]
theorem y5:zl S4:=nI.addL <| fc VJ <| fc Ph <| fc Pl jn
end
noncomputable section

abbrev Xu:=mn [(4,[1,4,5,6]),(15,[1,4,5,8]),(20,[1,4,5,9])]
inductive mA where
 | h4 (b4:Bool) (s5:zp) (i6:Int) (z0:zu [CP.d zo])
 | h15 (b4:Bool) (s5:zp) (i8:Int) (z0:zu [CP.d zo])
 | h20 (b4:Bool) (s5:zp) (i9:Int) (z0:zu [CP.d zo])
abbrev zcE:mA→Nat×St
 | .h4 b4 s5 i6 z0=>(4,⟨tm 174 [(1,AV.ptr 0 0),(4,AV.bool b4),(5,AV.str s5),(6,AV.int .i64 i6)],[AO.box (bK [] [CP.d zo] z0)]⟩)
 | .h15 b4 s5 i8 z0=>(15,⟨tm 174 [(1,AV.ptr 0 0),(4,AV.bool b4),(5,AV.str s5),(8,AV.int .i64 i8)],[AO.box (bK [] [CP.d zo] z0)]⟩)
 | .h20 b4 s5 i9 z0=>(20,⟨tm 174 [(1,AV.ptr 0 0),(4,AV.bool b4),(5,AV.str s5),(9,AV.int .i64 i9)],[AO.box (bK [] [CP.d zo] z0)]⟩)
def zdw (x0:Sem zo):Tr (mA ⊕ ao):=
 let a0:=[67,82,69,65,84,69,32,84,65,66,76,69,32]++x0.2.1
 let a1:=(↑(length x0.2.2.2.2.1):Int)
 let a2:=(↑(length x0.2.2.2.2.2.2.1):Int)
 let a3:=(↑(length x0.2.2.2.2.2.2.2.1):Int)
 Tr.chk (eX x0.2.2.2.2.2.1)
 (Tr.chk (decide ([67,82,69,65,84,69,32,84,65,66,76,69,32].length+length x0.2.1≤1099511627776))
  (Tr.chk (decide (length a0+[32,40,32].length≤1099511627776)) (Tr.to (mA.h4 (bif gU x0.2.2.2.2.2.1 then bif decide (1≤a1) then bif decide (a1≤8) then bif decide (a2≤8) then decide (a3≤8) else false else false else false else false) (a0++[32,40,32]) 0 (x0,())))))
def zfX:mA→Tr (mA ⊕ ao)
 | .h4 b4 s5 i6 z0=>
  let a0:=(↑(length z0.1.2.2.2.2.1):Int)
  let a1:=getD z0.1.2.2.2.2.1 i6.toNat (zj zi)
  let a2:=a1.1++[32]
  let a3:=[[],[73,78,84],[84,69,88,84],[66,79,79,76]].getD (toNat a1.2.1) (zj Sh.str)
  let a4:=a2++a3
  let a5:=s5++a4
  let a6:=a5++[32,78,79,84,32,78,85,76,76]
  let a7:=IntKind.i64.wrap (i6+1)
  let a8:=[75,69,89,32,40,32]++z0.1.2.2.2.2.2.1
  let a9:=a8++[32,41]
  Tr.br (decide (i6 < a0))
  (Tr.chk (zI i6 (length z0.1.2.2.2.2.1))
   (Tr.chk (eX a1.1) (Tr.br (bif !gU a1.1 then true else bif decide (a1.2.1 < 1) then true else decide (a1.2.1 > 3)) (Tr.re (AV.tup [AV.str [],AV.kb false]) []) (Tr.chk (decide (length a1.1+[32].length≤1099511627776)) (Tr.chk (zI a1.2.1 [[],[73,78,84],[84,69,88,84],[66,79,79,76]].length) (Tr.chk (decide (length a2+length a3≤1099511627776))
   (Tr.chk (decide (length s5+length a4≤1099511627776)) (Tr.br a1.2.2 (Tr.chk (decide (length a5+[32,78,79,84,32,78,85,76,76].length≤1099511627776)) (Tr.chk (decide (length a6+[32,44,32].length≤1099511627776)) (Tr.to (mA.h4 b4 (a6++[32,44,32]) a7 z0))))
   (Tr.chk (decide (length a5+[32,44,32].length≤1099511627776)) (Tr.to (mA.h4 b4 (a5++[32,44,32]) a7 z0)))))))))))
  (Tr.chk (decide ([75,69,89,32,40,32].length+length z0.1.2.2.2.2.2.1≤1099511627776))
   (Tr.chk (decide (length a8+[32,41].length≤1099511627776)) (Tr.chk (decide (length s5+length a9≤1099511627776)) (Tr.to (mA.h15 b4 (s5++a9) 0 z0)))))
 | .h15 b4 s5 i8 z0=>
  let a0:=(↑(length z0.1.2.2.2.2.2.2.1):Int)
  let a1:=zI i8 (length z0.1.2.2.2.2.2.2.1)
  let a2:=getD z0.1.2.2.2.2.2.2.1 i8.toNat (zj Sh.str)
  let a3:=[32,44,32,85,78,73,81,85,69,32,40,32]++a2
  let a4:=a3++[32,41]
  Tr.br (decide (i8 < a0))
  (Tr.chk (bif b4 then a1&&eX a2 else true)
   (Tr.chk a1 (Tr.chk (decide ([32,44,32,85,78,73,81,85,69,32,40,32].length+length a2≤1099511627776)) (Tr.chk (decide (length a3+[32,41].length≤1099511627776)) (Tr.chk (decide (length s5+length a4≤1099511627776)) (Tr.to (mA.h15 (bif b4 then gU a2 else false) (s5++a4) (IntKind.i64.wrap (i8+1)) z0)))))))
  (Tr.to (mA.h20 b4 s5 0 z0))
 | .h20 b4 s5 i9 z0=>
  let a0:=(↑(length z0.1.2.2.2.2.2.2.2.1):Int)
  let a1:=zI i9 (length z0.1.2.2.2.2.2.2.2.1)
  let a2:=getD z0.1.2.2.2.2.2.2.2.1 i9.toNat (zj bJ)
  let a3:=gU a2.1
  let a4:=[32,44,32,82,69,70,69,82,69,78,67,69,83,32,40,32]++a2.1
  let a5:=a4++[32,41,32]
  let a6:=a5++a2.2
  let a7:=zE z0.1.2.2.2.2.2.2.2.2.1
  let a8:=GM a7 [32,44]
  let a9:=s5++a8.1
  let a10:=a9++[32,41]
  Tr.br (decide (i9 < a0))
  (Tr.chk (bif b4 then a1&&(eX a2.1&&bif a3 then a1&&eX a2.2 else true) else true)
   (Tr.chk a1 (Tr.chk (decide ([32,44,32,82,69,70,69,82,69,78,67,69,83,32,40,32].length+length a2.1≤1099511627776)) (Tr.chk (decide (length a4+[32,41,32].length≤1099511627776)) (Tr.chk a1 (Tr.chk (decide (length a5+length a2.2≤1099511627776)) (Tr.chk (decide (length s5+length a6≤1099511627776))
   (Tr.to (mA.h20 (bif b4 then bif a3 then gU a2.2 else false else false) (s5++a6) (IntKind.i64.wrap (i9+1)) z0)))))))))
  (Tr.chk (Cf a7 [32,44])
   (Tr.chk (decide (length s5+length a8.1≤1099511627776)&&decide (length a9+[32,41].length≤1099511627776)) (Tr.re (AV.tup [AV.str (bif b4 then a10 else a10),AV.bool (bif b4 then a8.2 else false)]) [])))
def rW (x0:Sem zo):=zW [Sh.str,Sh.bool] zfX 100000000 (zdw x0)
def J7 (x0:Sem zo):=(rW x0).isSome
def N5 (x0:Sem zo):=o2 (rW x0)
def RP:=FT [zo] [Sh.str,Sh.bool] fun x=>rW x.1
theorem Pi:FK 240 RP:=y5.T1 (f:=Tryz.f240) (keep:=Xu) (e:=zcE)

def Lv:=S4.addL [(240,RP)]
theorem vw:zl Lv:=y5.addL <| fc Pi <| jn
end
end Cad
