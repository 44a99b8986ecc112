/- Bases: what an UPDATE that sets a column to itself answers. The document's sameness of rows. The document's sameness of rows, again. The document's sameness of tables with rows. The document's sameness of bases. The law BaseSets. The document's sameness of expressions and statements: they are the same. The document's sameness of statements, tables, plans: they are the same. The document's sameness of rows, tables, bases: they are the same. The law BaseOrder. The law BaseOrder answers true. From what is handed in to plain data. From a contract over plain data to a law's statement. What the package variables hold when a law begins. Laws of any parameters: the contract. The law BaseSets answers true. -/
import Derived.Test.YtiefilkilbdpgaaGreatDoorM18
import Derived.Test.YtiefilkilbdpgaaGreatDoorM15
import Derived.Test.YtiefilkilbdpgaaGreatDoorM14
import Derived.Test.YtiefilkilbdpgaaGreatDoorM17
import Derived.Test.YtiefilkilbdpgaaGreatDoorM11
import Derived.Test.YtiefilkilbdpgaaGreatDoorM12
import Derived.Test.YtiefilkilbdpgaaGreatDoorM09
import Derived.Carry
import Derived.ChangeSame
import Derived.RowKit3
import Derived.WideKeyArgs
import Derived.Test.YtiefilkilbdpgaaGreatDoorM06
import Derived.Test.YtiefilkilbdpgaaGreatDoorRows
import Derived.OpenShut
import Derived.ProofKit
namespace Cad
open Go Go.Proofs
open List (getD)
open List (length)
set_option maxHeartbeats 4000000

theorem Rs {t:Sem zt} (h:gS t=true) {j:Nat} (hj:j < t.2.1.length):dp (t.2.1.getD j (zj zi)).1=true∧z6 t.2.1 (t.2.1.getD j (zj zi)).1=(j:Int):=by
 unfold gS at h
 split at h
 ·cases h
 ·obtain ⟨_,h3⟩:=vU t.2.1 0 h
  obtain ⟨k1,k2,_⟩:=h3 j hj
  exact ⟨k1,by rw [iU] at k2; exact k2⟩

theorem O8 {cols:List (Sem zi)} {c:zn} {k:Nat} (hc:aT c=true) (hp:z6 cols c=(k:Int)):ba (dT c) cols=((cols.getD k (zj zi)).2.1,0):=by
 have e1:gw 16 (dT c) cols=((cols.getD k (zj zi)).2.1,0):=by
  have:gw 16 (dT c) cols=(if decide (z6 cols c < 0)=true then (0,4) else ((cols.getD (Int.toNat (z6 cols c)) (zj zi)).2.1,0)):=by kernel_rfl
  rw [this,hp,bl,if_neg (by simp)]
 unfold ba
 rw [tC hc,e1]
 rfl
theorem Mm {cols:List (Sem zi)} {c:zn} {k:Nat} {row:List (Sem zf)} (hc:aT c=true) (hp:z6 cols c=(k:Int)) (hk:k < row.length):f5 (dT c) cols row=row.getD k (zj zf):=by
 have e1:CV 16 cols row (dT c)=row.getD k (zj zf):=by
  have:CV 16 cols row (dT c)=(if (bif decide (z6 cols c < 0) then true else decide (z6 cols c ≥ (row.length:Int)))=true then (0,0,[]) else row.getD (Int.toNat (z6 cols c)) (zj zf)):=by kernel_rfl
  rw [this,hp,bl,if_neg (by simp; omega)]
 unfold f5
 rw [tC hc,e1]
 rfl

theorem Ls {db:List (Sem zh)} {t:Sem zt} {c:zn} {w:ze} {k:Nat} (hc:aT c=true) (hp:z6 t.2.1 c=(k:Int)) (hk:k < t.2.1.length):Bk (db,dL t.1 c w) t=some ([(k:Int)],0,()):=by
 have a1:Rn [] (k:Int)=some (-1,()):=by kernel_rfl
 have a2:D7 [] (k:Int)=some (false,()):=by
  unfold D7 zT cd
  have b1:X0 [] (k:Int)=true:=by unfold X0; rw [a1]; rfl
  have b2:ixI [] (k:Int)=-1:=by unfold ixI; rw [a1]; rfl
  simp only [zer,Tr.val,b1,b2,if_true]
  rfl
 have b1:Mv [] (k:Int)=true:=by unfold Mv; rw [a2]; rfl
 have b2:XR [] (k:Int)=false:=by unfold XR; rw [a2]; rfl
 have hp':ib t c=(k:Int):=hp
 have h1:decide ((k:Int) < 0)=false:=by simp
 have g0:getD [(c,dT c)] (Int.toNat 0) (zj (Sh.str.pr Sh.expr))=(c,dT c):=rfl
 have h2:(Zu (.h3 [(c,dT c)] 1 0 (t,()) [])).val=some (.inl (.h3 [(c,dT c)] 1 1 (t,()) [(k:Int)])):=by
  simp only [Zu,Tr.val,zo,Prod.eta,g0,hp',h1,b1,b2,O8 hc hp,zG hk,bl,oS,bR,zO,if_true,if_false]
  rfl
 exact bn (s:=.h3 [(c,dT c)] 1 0 (t,()) []) rfl ((aI.of h2).ends (bL.of (r:=(.tup [.vec 0,.int .i64 0],[.vec zg [(k:Int)]])) rfl)) (by omega) rfl

theorem cQ.pwS {x:Sem zh} (h:cQ x):x.2.Pairwise (x3 x.1.2.2.1):=by
 refine List.Pairwise.imp_of_mem (fun {a b} ha hb hab=>?_) h.pw
 unfold x3
 rw [I8 (h.kin a ha),I8 (h.kin b hb)]
 exact hab

theorem R7 {d:Sem ah} {x:Sem zh} {es:List ((Int×Int×zn)×Int)} {c:zn} {k:Nat} (hs:d.2.2.2.2.2.2.2.2.2.2.2.1=[(c,dT c)]) (hc:aT c=true) (hp:z6 x.1.2.1 c=(k:Int)) (hr:cQ x) (hk:k < x.1.2.1.length) {i:Nat} (hi:i < x.2.length):
  aI xp 3 (.h13 [(k:Int)] x.2 (x.2.length:Int) (i:Int) (d,()) (x,()) 0 0 es x.2) (.h13 [(k:Int)] x.2 (x.2.length:Int) ((i+1:Nat):Int) (d,()) (x,()) 0 0 es x.2):=by
 have hfew:=hr.few
 obtain ⟨r,hrr⟩:∃ r,x.2.getD i (zj zf.sl)=r:=⟨_,rfl⟩
 have hm:r∈x.2:=by rw [← hrr]; exact bc hi
 have hlen:=hr.len r hm
 have hkr:k < r.length:=by rw [lZ (by simpa using hr.fits r hm)]; exact hk
 have hw:=zH i (by unfold zF; omega)
 have hd:decide (length r≤1073741824)=true:=by simp only [zZ]; omega
 cases hv:fW es (getD r (Int.toNat x.1.2.2.1) (zj zf)) with
 | false=>
  refine (aI.of ?_).mono (by omega)
  simp only [xp,Tr.val,zW hi,zG hi,bl,hrr,hr.kin r hm,hv,yu,hw,if_true]
 | true=>
  have h1:(xp (.h13 [(k:Int)] x.2 (x.2.length:Int) (i:Int) (d,()) (x,()) 0 0 es x.2)).val=some (.inl (.h19 [(k:Int)] (i:Int) r x.2 (x.2.length:Int) (i:Int) [(c,dT c)] 1 0 (d,()) (x,()) 0 0 es x.2 i r)):=by
   simp only [xp,Tr.val,zW hi,zG hi,bl,hrr,hr.kin r hm,hv,hs,hd,aZ hi,iT,zO,if_true,if_false]
   rfl
  have g0:getD [(c,dT c)] (Int.toNat 0) (zj (Sh.str.pr Sh.expr))=(c,dT c):=rfl
  have g1:getD [(k:Int)] (Int.toNat 0) (zj zg)=(k:Int):=rfl
  have g2:r.set k (r.getD k (zj zf))=r:=by
   rw [aB,zI hkr,bA]
   exact List.set_getElem_self hkr
  have g3:zE 0 [(c,dT c)].length=true:=rfl
  have g4:zE 0 [(k:Int)].length=true:=rfl
  have g5:decide (0 < (1:Int))=true:=rfl
  have g6:IntKind.i64.wrap (0+1)=1:=by kernel_rfl
  have h2:(xp (.h19 [(k:Int)] (i:Int) r x.2 (x.2.length:Int) (i:Int) [(c,dT c)] 1 0 (d,()) (x,()) 0 0 es x.2 i r)).val=some (.inl (.h19 [(k:Int)] (i:Int) r x.2 (x.2.length:Int) (i:Int) [(c,dT c)] 1 1 (d,()) (x,()) 0 0 es x.2 i r)):=by
   simp only [xp,Tr.val,zo,zG hi,bl,g0,g1,g3,g4,g5,g6,zG hkr,aZ hkr,Mm hc hp hkr,g2,if_true,decide_true]
  have g7:decide ((1:Int) < 1)=false:=rfl
  have g8:x.2.set i r=x.2:=by
   rw [← hrr,aB,zI hi,bA]
   exact List.set_getElem_self hi
  have h3:(xp (.h19 [(k:Int)] (i:Int) r x.2 (x.2.length:Int) (i:Int) [(c,dT c)] 1 1 (d,()) (x,()) 0 0 es x.2 i r)).val=some (.inl (.h13 [(k:Int)] x.2 (x.2.length:Int) ((i+1:Nat):Int) (d,()) (x,()) 0 0 es x.2)):=by
   simp only [xp,Tr.val,g7,hw,g8,zO,if_false]
  exact ((aI.of h1).trans ((aI.of h2).trans (aI.of h3))).mono (by omega)

theorem FE {db:List (Sem zh)} {x:Sem zh} {c:zn} {w:ze} {i k:Nat} (hB:dS db) (hs:∀ y∈db,ql y) (h:aF db x.1.1=(i:Int)) (hx:db.getD i (zj zh)=x) (hc:aT c=true) (hp:z6 x.1.2.1 c=(k:Int)) (hk:k < x.1.2.1.length):
  j5 (db,dL x.1.1 c w)=some (if cM w x.1.2.1=0 then db else [],if cM w x.1.2.1=0 then (0,((jL x w).length:Int),[]) else Dn (cM w x.1.2.1),()):=by
 have hf:(0:Int)≤aF db x.1.1:=by rw [h]; omega
 have hm:=D4 hf
 rw [show Int.toNat (aF db x.1.1)=i by rw [h]; rfl,hx] at hm
 have hr:=hB.rels x hm
 have hfew:=hr.few
 have hrl:∀ r∈x.2,length r≤1000000:=fun r hr'=>cC (hr.len r hr') (by omega)
 have hl:x.2.length≤1000000:=by omega
 have hb:zE (aF db x.1.1) (length db)=true:=kf hf
 rw [h] at hb
 have hmo:=zfa (db,dL x.1.1 c w) x hr.may hl hrl hr.kin
 have h1:decide (LT.lt (α:=Int) (i:Int) 0)=false:=by simp
 have h2:decide (length x.2≤1073741824)=true:=by simp only [zZ]; omega
 have hmv:mV (db,dL x.1.1 c w) x=(BR [] ((if cM w x.1.2.1=0 then jL x w else []).map (aS x.1.2.2.1)),cM w x.1.2.1):=by unfold mV; rw [hmo]; rfl
 have hms:(mO (db,dL x.1.1 c w) x).isSome=true:=by rw [hmo]; rfl
 obtain ⟨f1,f2⟩:=uz (cM w x.1.2.1)
 have hss:=Ls (db:=db) (t:=x.1) (w:=w) hc hp hk
 have hsc:FD (db,dL x.1.1 c w) x.1=true:=by unfold FD; rw [hss]; rfl
 have hsv:Lr (db,dL x.1.1 c w) x.1=([(k:Int)],0):=by unfold Lr; rw [hss]; rfl
 by_cases h0:cM w x.1.2.1=0
 case neg=>
  have h0':(cM w x.1.2.1 != 0)=true:=by simpa using h0
  rw [if_neg h0,if_neg h0]
  unfold j5 zT cd
  simp only [Rg,Tr.val,zo,Prod.eta,h,h1,hb,bl,hx,hmv,hms,hsc,hsv,f1,f2,h0',oS,zO,if_true,if_false]
  rfl
 rw [if_pos h0,if_pos h0]
 generalize hes:BR [] ((jL x w).map (aS x.1.2.2.1))=es at hmv
 have hel:es.length=(jL x w).length:=by
  rw [← hes]
  exact M1 (List.Pairwise.sublist List.filter_sublist hr.pw)
 have hmv:mV (db,dL x.1.1 c w) x=(es,0):=by rw [hmv,h0,if_pos rfl,hes]
 have hi:(Rg (db,dL x.1.1 c w)).val=some (.inl (.h13 [(k:Int)] x.2 (x.2.length:Int) ((0:Nat):Int) ((db,dL x.1.1 c w),()) (x,()) 0 0 es x.2)):=by
  simp only [Rg,Tr.val,zo,Prod.eta,h,h1,h2,hb,bl,hx,hmv,hms,hsc,hsv,oS,zO,if_true,if_false]
  rfl
 have hg:=aI.all (t:=xp) 3 (fun j=>.h13 [(k:Int)] x.2 (x.2.length:Int) (j:Int) ((db,dL x.1.1 c w),()) (x,()) 0 0 es x.2) x.2.length fun j hj=>R7 rfl hc hp hr hk hj
 obtain ⟨l,e,b,p1,p2,p3,p4,p5⟩:=FA (s:=dL x.1.1 c w) (t:=x.1) (rows:=x.2) ((jL x w).length:Int) hB hs h (by rw [hx]) (by omega) (fun r hr'=>cC (hr.len r hr') (by omega))
 have hlx:l=x.2:=p2.2 hr.pwS
 subst hlx
 have hst:db.set i ((x.1,x.2):Sem zh)=db:=by
  show db.set i x=db
  rw [← hx,E6]
 have he:e=0:=p3.2 hr
 subst he
 have hbt:b=true:=(p4 rfl).2 (by rw [hst]; exact hB.bound)
 subst hbt
 rw [hst] at p5
 have hcc:uw (db,dL x.1.1 c w) x ((jL x w).length:Int)=true:=by
  show (gG (db,dL x.1.1 c w) (x.1,x.2) _).isSome=true
  rw [p5]; rfl
 have hcv:Bi (db,dL x.1.1 c w) x ((jL x w).length:Int)=(db,(0,((jL x w).length:Int),[])):=by
  show o2 (gG (db,dL x.1.1 c w) (x.1,x.2) _)=_
  rw [p5]; rfl
 have h4:decide ((jL x w).length≤1073741824)=true:=by
  have:=List.length_filter_le (nC w x.1.2.1) x.2
  simp only [zZ]
  unfold jL
  omega
 refine bn hi (hg.ends (bL.of (r:=(.tup [.sl zh db,.agg [.int .i64 0,.int .i64 ((jL x w).length:Int),.sl zf.sl []]],[])) ?_)) (by omega) rfl
 simp only [xp,Tr.val,z8,zo,Prod.eta,hel,h4,hcc,hcv,zO,if_true,if_false]
theorem QI {db:List (Sem zh)} {s:Sem zy} {n:List (Sem zh)} {a:Sem eE} (hs:gZ s) (hr:∀ x∈db,eR x) (hm:fx s=true) (hB:dS db) (ho:s.1=oL) (hc:j5 (db,s)=some (n,a,())):
  un db s=some (if a.1=0 then n else db,a,()):=by
 have h1:=mv hs
 have h2:=kI hr
 have h5:n5 db=(0:Int):=(qn hr).2 hB
 have q0:(s.1==[99,114,101,97,116,101])=false:=by rw [ho]; rfl
 have q1:(s.1==[100,114,111,112])=false:=by rw [ho]; rfl
 have q2:(s.1==[105,110,115,101,114,116])=false:=by rw [ho]; rfl
 have q3:(s.1==[117,112,100,97,116,101])=true:=by rw [ho]; rfl
 have hcc:uD (db,s)=true:=by unfold uD; rw [hc]; rfl
 have hcv:Bl (db,s)=(n,a):=by unfold Bl; rw [hc]; rfl
 unfold un zT cd
 simp only [i9w,Tr.val,zo,Prod.eta,hm,h1,h2,h5,hcc,hcv,q0,q1,q2,q3,iT,bR,oS,rN,zO,if_true,if_false]
 by_cases h:a.1=0
 ·have h':(a.1 != 0)=false:=by simpa using h
  simp only [h',zO,if_false,if_pos h]
  rfl
 ·have h':(a.1 != 0)=true:=by simpa using h
  simp only [h',if_true,if_neg h]
  rfl
noncomputable section

abbrev X8:=jJ [(4,[0,1,5])]
inductive tM where
 | h4 (l0:List (Sem zf)) (l1:List (Sem zf)) (i5:Int)
abbrev zdc:tM→Nat×St
 | .h4 l0 l1 i5=>(4,⟨tm 26 [(0,AV.sl zf l0),(1,AV.sl zf l1),(5,AV.int .i64 i5)],[]⟩)
def zdZ (x0:Sem zf.sl) (x1:Sem zf.sl):Tr (tM ⊕ zV):=
 Tr.br ((↑(length x0):Int) != (↑(length x1):Int)) (Tr.re (AV.kb false) []) (Tr.to (tM.h4 x0 x1 0))
def Jc:tM→Tr (tM ⊕ zV)
 | .h4 l0 l1 i5=>
  let a0:=l0.getD i5.toNat (zj zf)
  let a1:=l1.getD i5.toNat (zj zf)
  Tr.br (decide (i5 < (↑l0.length:Int)))
  (Tr.chk (zE i5 l0.length) (Tr.chk (zE i5 l1.length) (Tr.br (!(a0.1==a1.1&&(a0.2.1==a1.2.1&&(a0.2.2==a1.2.2&&true)))) (Tr.re (AV.kb false) []) (Tr.to (tM.h4 l0 l1 (IntKind.i64.wrap (i5+1)))))))
  (Tr.re (AV.kb true) [])
def tH (x0:Sem zf.sl) (x1:Sem zf.sl):=zT [Sh.bool] Jc 100000000 (zdZ x0 x1)
def CR (x0:Sem zf.sl) (x1:Sem zf.sl):=(tH x0 x1).isSome
def xy (x0:Sem zf.sl) (x1:Sem zf.sl):=o1 (tH x0 x1)
def Sk:=FT [zf.sl,zf.sl] [Sh.bool] fun x=>tH x.1 x.2.1
theorem Pr:FK 104 Sk:=Ab.T1 (f:=Tryz.f104) (keep:=X8) (e:=zdc)

def TU:=T6.add 104 Sk
theorem y2:zm TU:=Ab.add Pr
end
noncomputable section

abbrev zeV:=jJ [(4,[0,1,5])]
inductive Fp where
 | h4 (l0:List (Sem zf.sl)) (l1:List (Sem zf.sl)) (i5:Int)
abbrev zho:Fp→Nat×St
 | .h4 l0 l1 i5=>(4,⟨tm 27 [(0,AV.sl zf.sl l0),(1,AV.sl zf.sl l1),(5,AV.int .i64 i5)],[]⟩)
def ziP (x0:Sem zf.sl.sl) (x1:Sem zf.sl.sl):Tr (Fp ⊕ zV):=
 Tr.br ((↑(length x0):Int) != (↑(length x1):Int)) (Tr.re (AV.kb false) []) (Tr.to (Fp.h4 x0 x1 0))
def R2:Fp→Tr (Fp ⊕ zV)
 | .h4 l0 l1 i5=>
  let a0:=l0.getD i5.toNat (zj zf.sl)
  let a1:=l1.getD i5.toNat (zj zf.sl)
  Tr.br (decide (i5 < (↑l0.length:Int)))
  (Tr.chk (zE i5 l0.length) (Tr.chk (zE i5 l1.length) (Tr.chk (CR a0 a1) (Tr.br (!xy a0 a1) (Tr.re (AV.kb false) []) (Tr.to (Fp.h4 l0 l1 (IntKind.i64.wrap (i5+1))))))))
  (Tr.re (AV.kb true) [])
def tf (x0:Sem zf.sl.sl) (x1:Sem zf.sl.sl):=zT [Sh.bool] R2 100000000 (ziP x0 x1)
def te (x0:Sem zf.sl.sl) (x1:Sem zf.sl.sl):=(tf x0 x1).isSome
def rm (x0:Sem zf.sl.sl) (x1:Sem zf.sl.sl):=o1 (tf x0 x1)
def zaT:=FT [zf.sl.sl,zf.sl.sl] [Sh.bool] fun x=>tf x.1 x.2.1
theorem Wn:FK 61 zaT:=y2.T1 (f:=Tryz.f61) (keep:=zeV) (e:=zho)

def TV:=TU.add 61 zaT
theorem JU:zm TV:=y2.add Wn
end
noncomputable section
def Mf:=TV.add 60 U2
theorem vu:zm Mf:=JU.add KZ

def zek (x0:Sem zh) (x1:Sem zh):Tr (Empty ⊕ zV):=
 let a0:=(x0.1.1,x0.1.2.1,x0.1.2.2.1,x0.1.2.2.2.1,x0.1.2.2.2.2.1,zB x0.1.2.2.2.2.2)
 let a1:=(x1.1.1,x1.1.2.1,x1.1.2.2.1,x1.1.2.2.2.1,x1.1.2.2.2.2.1,zB x1.1.2.2.2.2.2)
 let a2:=kU a0 a1
 Tr.chk (td a0 a1&&bif a2 then te x0.2 x1.2 else true) (Tr.re (AV.bool (bif a2 then rm x0.2 x1.2 else false)) [])
def tg (x0:Sem zh) (x1:Sem zh):=zT [Sh.bool] t0 100000000 (zek x0 x1)
def Cb (x0:Sem zh) (x1:Sem zh):=(tg x0 x1).isSome
def wE (x0:Sem zh) (x1:Sem zh):=o1 (tg x0 x1)
def zax:=FT [zh,zh] [Sh.bool] fun x=>tg x.1 x.2.1
theorem VY:FK 31 zax:=vu.T1 (f:=Tryz.f31) (keep:=k0) (e:=e0)

def TW:=Mf.add 31 zax
theorem y3:zm TW:=vu.add VY
end
noncomputable section

abbrev zeB:=jJ [(4,[0,1,5])]
inductive Fl where
 | h4 (l0:List (Sem zh)) (l1:List (Sem zh)) (i5:Int)
abbrev zhb:Fl→Nat×St
 | .h4 l0 l1 i5=>(4,⟨tm 27 [(0,AV.sl zh l0),(1,AV.sl zh l1),(5,AV.int .i64 i5)],[]⟩)
def ziC (x0:Sem zh.sl) (x1:Sem zh.sl):Tr (Fl ⊕ zV):=
 Tr.br ((↑(length x0):Int) != (↑(length x1):Int)) (Tr.re (AV.kb false) []) (Tr.to (Fl.h4 x0 x1 0))
def RY:Fl→Tr (Fl ⊕ zV)
 | .h4 l0 l1 i5=>
  let a0:=l0.getD i5.toNat (zj zh)
  let a1:=((a0.1.1,a0.1.2.1,a0.1.2.2.1,a0.1.2.2.2.1,a0.1.2.2.2.2.1,zB a0.1.2.2.2.2.2),a0.2)
  let a2:=l1.getD i5.toNat (zj zh)
  let a3:=((a2.1.1,a2.1.2.1,a2.1.2.2.1,a2.1.2.2.2.1,a2.1.2.2.2.2.1,zB a2.1.2.2.2.2.2),a2.2)
  Tr.br (decide (i5 < (↑l0.length:Int)))
  (Tr.chk (zE i5 l0.length) (Tr.chk (zE i5 l1.length) (Tr.chk (Cb a1 a3) (Tr.br (!wE a1 a3) (Tr.re (AV.kb false) []) (Tr.to (Fl.h4 l0 l1 (IntKind.i64.wrap (i5+1))))))))
  (Tr.re (AV.kb true) [])
def th (x0:Sem zh.sl) (x1:Sem zh.sl):=zT [Sh.bool] RY 100000000 (ziC x0 x1)
def Ce (x0:Sem zh.sl) (x1:Sem zh.sl):=(th x0 x1).isSome
def Cd (x0:Sem zh.sl) (x1:Sem zh.sl):=o1 (th x0 x1)
def Z4:=FT [zh.sl,zh.sl] [Sh.bool] fun x=>th x.1 x.2.1
theorem Vs:FK 12 Z4:=y3.T1 (f:=Tryz.f12) (keep:=zeB) (e:=zhb)

def T4:=TW.add 12 Z4
theorem JW:zm T4:=y3.add Vs
end
noncomputable section
def Xm:=((T4.add 14 F7p).add 10 F8p).add 15 F9p
theorem FV:zm Xm:=((JW.add Tq).add Ts).add zcD

def i8w (x0:Sem zh.sl) (x1:Sem Sh.expr) (x2:Sem (Sh.int IntKind.u16)):Tr (Empty ⊕ zV):=
 let a0:=IntKind.i64.wrap ((IntKind.i64.wrap x2).tmod (↑(length (jb x0)):Int))
 let a1:=getD (jb x0) a0.toNat (zj zh)
 let a2:=(↑(length a1.1.2.1):Int)
 let a3:=IntKind.i64.wrap ((IntKind.i64.wrap (IntKind.u16.wrap (Int.tdiv x2 16))).tmod a2)
 let a4:=getD a1.1.2.1 a3.toNat (zj zi)
 let a5:=([117,112,100,97,116,101],a1.1.1,[],[],[],[],[],[],ze.mk [] (0,0,[]) [] [],[],[(a4.1,ze.mk [99,111,108] (0,0,[]) a4.1 [])],zB x1,[])
 let a6:=No a5
 let a7:=zB a6.2.2.2.2.2.2.2.2.2.2.2.1
 let a8:=(a6.1,a6.2.1,a6.2.2.1,a6.2.2.2.1,a6.2.2.2.2.1,a6.2.2.2.2.2.1,a6.2.2.2.2.2.2.1,a6.2.2.2.2.2.2.2.1,zB a6.2.2.2.2.2.2.2.2.1,a6.2.2.2.2.2.2.2.2.2.1,a6.2.2.2.2.2.2.2.2.2.2.1,a7,a6.2.2.2.2.2.2.2.2.2.2.2.2)
 let a9:=([115,101,108,101,99,116],a1.1.1,[],[],[],[],[],[],ze.mk [] (0,0,[]) [] [],[],[],a7,[])
 let a10:=bDo (jb x0) a8
 let a11:=Cd a10.1 (jb x0)
 let a12:=bDo (jb x0) a9
 let a13:=a10.2.1==a12.2.1
 let a14:=a10.2.2.1==a12.2.2.1
 Tr.chk (Gr x0)
 (Tr.chk (EI (jb x0))
  (Tr.br (bif Cc (jb x0) != 0 then true else (↑(length (jb x0)):Int)==0) (Tr.chk true (Tr.re (AV.bool yx) [])) (Tr.chk ((↑(length (jb x0)):Int) != 0) (Tr.chk (zE a0 (length (jb x0))) (Tr.chk true (Tr.chk (a2 != 0) (Tr.chk (zE a3 (length a1.1.2.1)) (Tr.chk (Gp a5) (Tr.chk (QG (jb x0) a8) (Tr.chk (QG (jb x0) a9)
  (Tr.chk (Ce a10.1 (jb x0)&&bif a11 then bif a13 then bif a14 then Fv else true else true else true) (Tr.re (AV.bool (bif a11 then bif a13 then bif a14 then yx else false else false else false)) []))))))))))))
def qW (x0:Sem zh.sl) (x1:Sem Sh.expr) (x2:Sem (Sh.int IntKind.u16)):=zT [Sh.bool] t0 100000000 (i8w x0 x1 x2)
def F8w:=FT [zh.sl,Sh.expr,Sh.int IntKind.u16] [Sh.bool] fun x=>qW x.1 x.2.1 x.2.2.1
theorem zcs:FK 8 F8w:=FV.T1 (f:=Tryz.f8) (keep:=k0) (e:=e0)

end

section
variable {σ:Type} {t:σ→Tr (σ ⊕ zV)}
abbrev EN:zV:=(.kb false,[])
theorem FX {α:Type} {la lb:List α} (st:Nat→σ) (hlen:la.length=lb.length) (hs:∀ i (ha:i < la.length) (hb:i < lb.length),(la[i]=lb[i]→(t (st i)).val=some (.inl (st (i+1))))∧(la[i]≠lb[i]→(t (st i)).val=some (.inr EN))):
  (la=lb∧aI t la.length (st 0) (st la.length))∨(la≠lb∧bL t la.length (st 0) EN):=by
 rcases K7 (t:=t) (Φ:=fun r=>r=EN) 1 st (fun i=>la[i]?=lb[i]?) la.length (fun i hi _=>by
  have hb:i < lb.length:=by omega
  obtain ⟨h1,h2⟩:=hs i hi hb
  rw [zI hi,zI hb]
  by_cases h:la[i]=lb[i]
  ·exact .inl ⟨by rw [h],aI.of (h1 h)⟩
  ·exact .inr ⟨fun h3=>h (Option.some.inj h3),EN,bL.of (h2 h),rfl⟩) with ⟨h1,h2⟩ | ⟨h1,r,h2,rfl⟩
 ·rw [Nat.mul_one] at h2
  refine .inl ⟨yp fun i=>?_,h2⟩
  by_cases hi:i < la.length
  ·exact h1 i hi
  ·rw [dd (by omega),dd (by omega)]
 ·rw [Nat.mul_one] at h2
  exact .inr ⟨fun h=>h1 fun i _=>by rw [h],h2⟩
end

theorem Hw {α:Type} {a b:List α}:((a.length:Int) != (b.length:Int))=true↔a.length≠b.length:=by
 simp [bne]; omega

theorem wy:∀ (N:Nat) (a b:ze),lR N a=true→∃ r,bd N a b=some (r,())∧(r=true↔a=b)
 | 0,_,_,h=>by cases h
 | N + 1,.mk op v s l,.mk op' v' s' l',h=>by
  rw [lR] at h
  simp only [aE,zZ,cR] at h
  obtain ⟨hl,ha⟩:=h
  rw [bd]
  unfold IJ
  have no:(J5 (fun x0 x1=>eK (bd N x0 x1)) (fun x0 x1=>(bd N x0 x1).isSome) (.mk op v s l) (.mk op' v' s' l')).val=some (.inr EN)→¬ (ze.mk op v s l=ze.mk op' v' s' l')→
    ∃ r,zT [Sh.bool] (CL (fun x0 x1=>eK (bd N x0 x1)) (fun x0 x1=>(bd N x0 x1).isSome)) 3000000000 (J5 (fun x0 x1=>eK (bd N x0 x1)) (fun x0 x1=>(bd N x0 x1).isSome) (.mk op v s l) (.mk op' v' s' l'))=some (r,())∧(r=true↔ze.mk op v s l=ze.mk op' v' s' l'):=by
   intro hv hne
   exact ⟨false,gN hv rfl,by simp [hne]⟩
  have hd:∀ c:Bool,(bif !op==op' then true else bif !(v.1==v'.1&&(v.2.1==v'.2.1&&(v.2.2==v'.2.2&&true))) then true else bif !s==s' then true else (↑l.length:Int) != (↑l'.length:Int))=c→
    (J5 (fun x0 x1=>eK (bd N x0 x1)) (fun x0 x1=>(bd N x0 x1).isSome) (.mk op v s l) (.mk op' v' s' l')).val=if c=true then some (.inr EN) else some (.inl (.h4 ((0:Nat):Int) (.mk op v s l,()) (.mk op' v' s' l',()))):=by
   rintro c rfl
   rfl
  by_cases e1:op=op'
  rotate_left
  ·exact no (by rw [hd true (by rw [yn.2 e1]; rfl)]; rfl) (fun h=>e1 (by injection h))
  by_cases e2:v=v'
  rotate_left
  ·refine no ?_ (fun h=>e2 (by injection h))
   rw [hd true ?_]
   ·rfl
   ·have:(v.1==v'.1&&(v.2.1==v'.2.1&&(v.2.2==v'.2.2&&true)))=false:=by
     rw [← Bool.not_eq_true]
     intro h
     simp at h
     exact e2 (Prod.ext h.1 (Prod.ext h.2.1 h.2.2))
    rw [this]
    cases (op==op') <;> rfl
  by_cases e3:s=s'
  rotate_left
  ·refine no ?_ (fun h=>e3 (by injection h))
   rw [hd true ?_]
   ·rfl
   ·rw [yn.2 e3]
    cases (op==op') <;> cases (v.1==v'.1&&(v.2.1==v'.2.1&&(v.2.2==v'.2.2&&true))) <;> rfl
  by_cases e4:l.length=l'.length
  rotate_left
  ·refine no ?_ (fun h=>e4 (by injection h with _ _ _ h; rw [h]))
   rw [hd true ?_]
   ·rfl
   ·rw [Hw.2 e4]
    cases (op==op') <;> cases (v.1==v'.1&&(v.2.1==v'.2.1&&(v.2.2==v'.2.2&&true))) <;> cases (s==s') <;> rfl
  subst e1; subst e2; subst e3
  have hv:=hd false (by
   have:((↑l.length:Int) != (↑l'.length:Int))=false:=by rw [← Bool.not_eq_true,Hw]; exact fun h=>h e4
   rw [this]
   simp)
  rw [if_neg (by simp)] at hv
  rcases FX (t:=CL (fun x0 x1=>eK (bd N x0 x1)) (fun x0 x1=>(bd N x0 x1).isSome)) (la:=l) (lb:=l') (fun i=>.h4 (i:Int) (.mk op v s l,()) (.mk op v s l',())) e4 (by
   intro i hi hi'
   obtain ⟨r,hr,hiff⟩:=wy N l[i] l'[i] (ha _ (cx hi))
   have g1:getD l (i:Int).toNat (zj Sh.expr)=l[i]:=gK _ _ hi
   have g2:getD l' (i:Int).toNat (zj Sh.expr)=l'[i]:=gK _ _ hi'
   have hval:(CL (fun x0 x1=>eK (bd N x0 x1)) (fun x0 x1=>(bd N x0 x1).isSome) (.h4 (i:Int) (.mk op v s l,()) (.mk op v s l',()))).val=if (!r)=true then some (.inr EN) else some (.inl (.h4 ((i+1:Nat):Int) (.mk op v s l,()) (.mk op v s l',()))):=by
    simp only [CL,Ha,CM,Tr.val,ze.l,zo,g1,g2,zG hi,zG hi',hr,ep,if_true]
    rw [zH i (by unfold zF; omega)]
    show (if decide ((i:Int) < (l.length:Int))=true then _ else _)=_
    rw [if_pos (aZ (by omega))]
    rfl
   rw [hval]
   refine ⟨fun h=>?_,fun h=>?_⟩
   ·rw [if_neg (by rw [hiff.2 h]; simp)]
   ·rw [if_pos]
    cases r
    ·rfl
    ·exact absurd (hiff.1 rfl) h) with ⟨h1,h2⟩ | ⟨h1,h2⟩
  ·subst h1
   refine ⟨true,bn hv (h2.ends (bL.of (r:=(.kb true,[])) ?_)) (by omega) rfl,by simp⟩
   simp only [CL,Ha,CM,Tr.val,ze.l]
   exact if_neg (by simp)
  ·exact ⟨false,bn hv h2 (by omega) rfl,by simp [h1]⟩
theorem Kk {a b:ze} (h:lR 16 a=true):fO a b=true∧(fN a b=true↔a=b):=by
 obtain ⟨r,h1,h2⟩:=wy 16 a b h
 have h1:B6 a b=some (r,()):=h1
 refine ⟨by unfold fO; rw [h1]; rfl,?_⟩
 have:fN a b=r:=by unfold fN; rw [h1]; rfl
 rw [this]; exact h2

section
variable {σ:Type} {t:σ→Tr (σ ⊕ zV)}
def KS (t:σ→Tr (σ ⊕ zV)) (K:Nat) (nx:σ ⊕ zV) (r:zV):Prop:=match nx with
 | .inl h=>bL t K h r
 | .inr r'=>r'=r
theorem BB {α:Type} {la lb:List α} (st:Int→σ) (nx:σ ⊕ zV) (e:Nat→Bool) (hval:∀ i:Nat,i≤la.length→(t (st i)).val=if decide (LT.lt (α:=Int) (i:Int) (la.length:Int))=true then (if zE (i:Int) la.length=true then (if zE (i:Int) lb.length=true then (if (!e i)=true then some (.inr EN) else some (.inl (st (IntKind.i64.wrap ((i:Int)+1))))) else none) else none) else some nx)
  (he:∀ i (_:i < la.length) (ha:i < la.length) (hb:i < lb.length),e i=true↔la[i]=lb[i]) (hlen:la.length=lb.length) (hm:la.length≤1000000):
  (la=lb∧∀ K r,KS t K nx r→bL t (K+la.length+1) (st 0) r)∨(la≠lb∧bL t la.length (st 0) EN):=by
 rcases FX (t:=t) (la:=la) (lb:=lb) (fun i=>st (i:Int)) hlen (fun i ha hb=>by
  have hv:=hval i (by omega)
  rw [if_pos (aZ (by omega)),if_pos (zG ha),if_pos (zG hb),zH i (by unfold zF; omega)] at hv
  have:=he i ha ha hb
  refine ⟨fun h=>?_,fun h=>?_⟩
  ·rw [hv,if_neg (by rw [this.2 h]; simp)]
  ·rw [hv,if_pos]
   cases hh:e i
   ·rfl
   ·exact absurd (this.1 hh) h) with ⟨h1,h2⟩ | ⟨h1,h2⟩
 ·refine .inl ⟨h1,fun K r hr=>?_⟩
  have hv:=hval la.length (aM _)
  rw [if_neg (by simp)] at hv
  unfold KS at hr
  cases nx with
  | inl h=>exact (h2.ends ((aI.of hv).ends hr)).mono (by omega)
  | inr r'=>cases hr; exact (h2.ends (bL.of hv)).mono (by omega)
 ·exact .inr ⟨h1,h2⟩
end

theorem Xg (a b:Sem zi):(a.1==b.1&&(a.2.1==b.2.1&&(a.2.2==b.2.2&&true)))=true↔a=b:=by
 simp [Prod.ext_iff]
theorem Xn (a b:Sem zp):(a.1==b.1&&(a.2==b.2&&true))=true↔a=b:=by
 simp [Prod.ext_iff]
theorem Pc (a b:Sem zf):(a.1==b.1&&(a.2.1==b.2.1&&(a.2.2==b.2.2&&true)))=true↔a=b:=by
 simp [Prod.ext_iff]

theorem GK {a b:Sem zt} (hc:a.2.1.length≤1000000) (hu:a.2.2.2.1.length≤1000000) (hr:a.2.2.2.2.1.length≤1000000) (he:lR 16 a.2.2.2.2.2=true):∃ r,pI a b=some (r,())∧(r=true↔a=b):=by
 obtain ⟨a1,a2,a3,a4,a5,a6⟩:=a
 obtain ⟨b1,b2,b3,b4,b5,b6⟩:=b
 have hc:a2.length≤1000000:=hc
 have hu:a4.length≤1000000:=hu
 have hr:a5.length≤1000000:=hr
 obtain ⟨s1,s2⟩:=Kk (b:=b6) he
 have hv:∀ c:Bool,(bif !a1==b1 then true else bif a3 != b3 then true else bif (↑(length a2):Int) != (↑(length b2):Int) then true else bif (↑(length a4):Int) != (↑(length b4):Int) then true else (↑(length a5):Int) != (↑(length b5):Int))=c→
   (XT (a1,a2,a3,a4,a5,a6) (b1,b2,b3,b4,b5,b6)).val=if c=true then some (.inr EN) else some (.inl (.h4 0 ((a1,a2,a3,a4,a5,a6),()) ((b1,b2,b3,b4,b5,b6),()))):=by
  rintro c rfl
  rfl
 have no:∀ (h:¬ ((a1,a2,a3,a4,a5,a6):Sem zt)=(b1,b2,b3,b4,b5,b6)) {k s},(XT (a1,a2,a3,a4,a5,a6) (b1,b2,b3,b4,b5,b6)).val=some (.inl s)→bL G9 k s EN→k≤100000000→∃ r,pI (a1,a2,a3,a4,a5,a6) (b1,b2,b3,b4,b5,b6)=some (r,())∧(r=true↔((a1,a2,a3,a4,a5,a6):Sem zt)=(b1,b2,b3,b4,b5,b6)):=by
  intro h k s h1 h2 h3
  exact ⟨false,bn h1 h2 h3 rfl,by simpa using h⟩
 cases hcase:(bif !a1==b1 then true else bif a3 != b3 then true else bif (↑(length a2):Int) != (↑(length b2):Int) then true else bif (↑(length a4):Int) != (↑(length b4):Int) then true else (↑(length a5):Int) != (↑(length b5):Int))
 rotate_left
 ·refine ⟨false,gN (r:=EN) (by rw [hv true hcase]; rfl) rfl,?_⟩
  constructor
  ·intro h; cases h
  ·intro h
   simp only [bu] at h
   obtain ⟨rfl,rfl,rfl,rfl,rfl,rfl⟩:=h
   simp at hcase
 have hi:=hv false hcase
 rw [if_neg (by simp)] at hi
 have e1:a1=b1:=by
  cases h:(a1==b1)
  ·rw [h] at hcase; cases hcase
  ·simpa using h
 have e3:a3=b3:=by
  cases h:(a3 != b3)
  ·simpa using h
  ·rw [h] at hcase; revert hcase; cases (!a1==b1) <;> simp
 have l2:a2.length=b2.length:=by
  cases h:((↑(length a2):Int) != (↑(length b2):Int))
  ·simp [bne] at h; omega
  ·rw [h] at hcase; revert hcase; cases (!a1==b1) <;> cases (a3 != b3) <;> simp
 have l4:a4.length=b4.length:=by
  cases h:((↑(length a4):Int) != (↑(length b4):Int))
  ·simp [bne] at h; omega
  ·rw [h] at hcase; revert hcase; cases (!a1==b1) <;> cases (a3 != b3) <;> cases ((↑(length a2):Int) != (↑(length b2):Int)) <;> simp
 have l5:a5.length=b5.length:=by
  cases h:((↑(length a5):Int) != (↑(length b5):Int))
  ·simp [bne] at h; omega
  ·rw [h] at hcase; revert hcase; cases (!a1==b1) <;> cases (a3 != b3) <;> cases ((↑(length a2):Int) != (↑(length b2):Int)) <;> cases ((↑(length a4):Int) != (↑(length b4):Int)) <;> simp
 rcases BB (t:=G9) (la:=a2) (lb:=b2) (fun i=>.h4 i ((a1,a2,a3,a4,a5,a6),()) ((b1,b2,b3,b4,b5,b6),())) (.inl (.h9 0 ((a1,a2,a3,a4,a5,a6),()) ((b1,b2,b3,b4,b5,b6),()))) (fun i=>((getD a2 (i:Int).toNat (zj zi)).1==(getD b2 (i:Int).toNat (zj zi)).1&&((getD a2 (i:Int).toNat (zj zi)).2.1==(getD b2 (i:Int).toNat (zj zi)).2.1&&((getD a2 (i:Int).toNat (zj zi)).2.2==(getD b2 (i:Int).toNat (zj zi)).2.2&&true)))) (fun _ _=>rfl) (fun i _ ha hb=>by rw [Xg,gK _ _ ha,gK _ _ hb]) l2 hc with ⟨q2,k2⟩ | ⟨q2,k2⟩
 rotate_left
 ·exact no (fun h=>q2 (by simp only [bu] at h; exact h.2.1)) hi k2 (by omega)
 rcases BB (t:=G9) (la:=a4) (lb:=b4) (fun i=>.h9 i ((a1,a2,a3,a4,a5,a6),()) ((b1,b2,b3,b4,b5,b6),())) (.inl (.h14 0 ((a1,a2,a3,a4,a5,a6),()) ((b1,b2,b3,b4,b5,b6),()))) (fun i=>getD a4 (i:Int).toNat (zj zg)==getD b4 (i:Int).toNat (zj zg)) (fun _ _=>rfl) (fun i _ ha hb=>by rw [eQ,gK _ _ ha,gK _ _ hb]) l4 hu with ⟨q4,k4⟩ | ⟨q4,k4⟩
 rotate_left
 ·exact no (fun h=>q4 (by simp only [bu] at h; exact h.2.2.2.1)) hi (k2 _ _ k4) (by omega)
 rcases BB (t:=G9) (la:=a5) (lb:=b5) (fun i=>.h14 i ((a1,a2,a3,a4,a5,a6),()) ((b1,b2,b3,b4,b5,b6),())) (.inr (.bool (fN a6 b6),[])) (fun i=>((getD a5 (i:Int).toNat (zj zp)).1==(getD b5 (i:Int).toNat (zj zp)).1&&((getD a5 (i:Int).toNat (zj zp)).2==(getD b5 (i:Int).toNat (zj zp)).2&&true))) (fun i _=>by
   show (G9 (.h14 _ _ _)).val=_
   simp only [G9,Tr.val,zo]
   rw [show (if fO a6 b6=true then some (Sum.inr (AV.bool (fN a6 b6),([]:List AO))) else none)=(some (Sum.inr (AV.bool (fN a6 b6),[])):Option (tU ⊕ zV)) from if_pos s1]) (fun i _ ha hb=>by rw [Xn,gK _ _ ha,gK _ _ hb]) l5 hr with ⟨q5,k5⟩ | ⟨q5,k5⟩
 rotate_left
 ·exact no (fun h=>q5 (by simp only [bu] at h; exact h.2.2.2.2.1)) hi (k2 _ _ (k4 _ _ k5)) (by omega)
 refine ⟨fN a6 b6,bn hi (k2 _ _ (k4 _ _ (k5 0 _ rfl))) (by omega) rfl,?_⟩
 rw [s2]
 subst e1; subst e3; subst q2; subst q4; subst q5
 simp
theorem Kn {a b:Sem zt} (hc:a.2.1.length≤1000000) (hu:a.2.2.2.1.length≤1000000) (hr:a.2.2.2.2.1.length≤1000000) (he:lR 16 a.2.2.2.2.2=true):td a b=true∧(kU a b=true↔a=b):=by
 obtain ⟨r,h1,h2⟩:=GK (b:=b) hc hu hr he
 refine ⟨by unfold td; rw [h1]; rfl,?_⟩
 have:kU a b=r:=by unfold kU; rw [h1]; rfl
 rw [this]; exact h2


theorem rA {α σ:Type} {t:σ→Tr (σ ⊕ zV)} {i:Tr (σ ⊕ zV)} {la lb:List α} (st:Int→σ) (hi:i.val=if ((la.length:Int) != (lb.length:Int))=true then some (.inr EN) else some (.inl (st 0))) (hm:la.length≤1000000)
  (hs:∀ j (ha:j < la.length) (hb:j < lb.length),(la[j]=lb[j]→(t (st (j:Int))).val=some (.inl (st ((j+1:Nat):Int))))∧(la[j]≠lb[j]→(t (st (j:Int))).val=some (.inr EN)))
  (he:(t (st (la.length:Int))).val=some (.inr (.kb true,[]))):∃ r,zT [Sh.bool] t 100000000 i=some (r,())∧(r=true↔la=lb):=by
 by_cases hl:la.length=lb.length
 case neg=>
  have h1:((la.length:Int) != (lb.length:Int))=true:=by simp; omega
  rw [if_pos h1] at hi
  refine ⟨false,gN hi rfl,fun h=>(by cases h),fun h=>absurd (congrArg length h) hl⟩
 have h1:((la.length:Int) != (lb.length:Int))=false:=by rw [hl]; simp
 rw [if_neg (by rw [h1]; simp)] at hi
 rcases FX (t:=t) (la:=la) (lb:=lb) (fun i=>st (i:Int)) hl hs with ⟨q1,q2⟩ | ⟨q1,q2⟩
 ·exact ⟨true,bn hi (q2.ends (bL.of he)) (by omega) rfl,fun _=>q1,fun _=>rfl⟩
 ·exact ⟨false,bn hi q2 (by omega) rfl,fun h=>(by cases h),fun h=>absurd h q1⟩

theorem Hf (a b:List (Sem zf)) (hm:a.length≤1000000):∃ r,tH a b=some (r,())∧(r=true↔a=b):=by
 refine rA (la:=a) (lb:=b) (fun i=>tM.h4 a b i) rfl hm (fun j ha hb=>?_) ?_
 ·have hv:(Jc (.h4 a b (j:Int))).val=if (!(a[j].1==b[j].1&&(a[j].2.1==b[j].2.1&&(a[j].2.2==b[j].2.2&&true))))=true then some (.inr EN) else some (.inl (.h4 a b ((j+1:Nat):Int))):=by
   simp only [Jc,Tr.val,zW ha,zG ha,zG hb,zY a _ ha,zY b _ hb,if_true,zH j (by unfold zF; omega)]
  refine ⟨fun h=>?_,fun h=>?_⟩
  ·rw [hv,(Pc _ _).2 h]; rfl
  ·rw [hv,Bool.eq_false_iff.2 fun h'=>h ((Pc _ _).1 h')]; rfl
 ·simp only [Jc,Tr.val,z8,zO,if_false]
theorem KJ {a b:List (Sem zf)} (hm:a.length≤1000000):CR a b=true∧(xy a b=true↔a=b):=by
 obtain ⟨r,h1,h2⟩:=Hf a b hm
 refine ⟨by unfold CR; rw [h1]; rfl,?_⟩
 have:xy a b=r:=by unfold xy; rw [h1]; rfl
 rw [this]; exact h2

theorem GL (a b:List (List (Sem zf))) (hm:a.length≤1000000) (hr:∀ r∈a,length r≤1000000):∃ r,tf a b=some (r,())∧(r=true↔a=b):=by
 refine rA (la:=a) (lb:=b) (fun i=>Fp.h4 a b i) rfl hm (fun j ha hb=>?_) ?_
 ·obtain ⟨s1,s2⟩:=KJ (a:=a[j]) (b:=b[j]) (hr _ (cx ha))
  have hv:(R2 (.h4 a b (j:Int))).val=if (!xy a[j] b[j])=true then some (.inr EN) else some (.inl (.h4 a b ((j+1:Nat):Int))):=by
   simp only [R2,Tr.val,zW ha,zG ha,zG hb,zY a _ ha,zY b _ hb,s1,if_true,zH j (by unfold zF; omega)]
  refine ⟨fun h=>?_,fun h=>?_⟩
  ·rw [hv,s2.2 h]; rfl
  ·rw [hv,Bool.eq_false_iff.2 fun h'=>h (s2.1 h')]; rfl
 ·simp only [R2,Tr.val,z8,zO,if_false]
theorem Kr {a b:List (List (Sem zf))} (hm:a.length≤1000000) (hr:∀ r∈a,length r≤1000000):te a b=true∧(rm a b=true↔a=b):=by
 obtain ⟨r,h1,h2⟩:=GL a b hm hr
 refine ⟨by unfold te; rw [h1]; rfl,?_⟩
 have:rm a b=r:=by unfold rm; rw [h1]; rfl
 rw [this]; exact h2

structure nX (x:Sem zh):Prop where
 cols:x.1.2.1.length≤1000000
 uq:x.1.2.2.2.1.length≤1000000
 rf:x.1.2.2.2.2.1.length≤1000000
 chk:lR 16 x.1.2.2.2.2.2=true
 rw:x.2.length≤1000000
 row:∀ r∈x.2,length r≤1000000

theorem GM {a b:Sem zh} (h:nX a):∃ r,tg a b=some (r,())∧(r=true↔a=b):=by
 obtain ⟨s1,s2⟩:=Kn (a:=a.1) (b:=b.1) h.cols h.uq h.rf h.chk
 obtain ⟨s3,s4⟩:=Kr (a:=a.2) (b:=b.2) h.rw h.row
 refine ⟨bif kU a.1 b.1 then rm a.2 b.2 else false,?_,?_⟩
 ·have hg:(td a.1 b.1&&bif kU a.1 b.1 then te a.2 b.2 else true)=true:=by
   rw [s1,s3]
   cases kU a.1 b.1 <;> rfl
  refine gN (r:=(.bool (bif kU a.1 b.1 then rm a.2 b.2 else false),[])) ?_ rfl
  simp only [zek,Tr.val,zo,Prod.eta,hg,if_true]
 ·cases hq:kU a.1 b.1 with
  | true=>
   simp only [bO]
   rw [s4]
   exact ⟨fun e=>Prod.ext (s2.1 hq) e,fun e=>by rw [e]⟩
  | false=>
   simp only [bR,zO,false_iff]
   intro e
   rw [s2.2 (by rw [e])] at hq
   cases hq
theorem Ks {a b:Sem zh} (h:nX a):Cb a b=true∧(wE a b=true↔a=b):=by
 obtain ⟨r,h1,h2⟩:=GM (b:=b) h
 refine ⟨by unfold Cb; rw [h1]; rfl,?_⟩
 have:wE a b=r:=by unfold wE; rw [h1]; rfl
 rw [this]; exact h2

theorem GP {a b:List (Sem zh)} (hm:a.length≤1000000) (h:∀ x∈a,nX x):∃ r,th a b=some (r,())∧(r=true↔a=b):=by
 refine rA (la:=a) (lb:=b) (fun i=>Fl.h4 a b i) rfl hm (fun j ha hb=>?_) ?_
 ·obtain ⟨s1,s2⟩:=Ks (a:=a[j]) (b:=b[j]) (h _ (cx ha))
  have hv:(RY (.h4 a b (j:Int))).val=if (!wE a[j] b[j])=true then some (.inr EN) else some (.inl (.h4 a b ((j+1:Nat):Int))):=by
   simp only [RY,Tr.val,zo,Prod.eta,zW ha,zG ha,zG hb,zY a _ ha,zY b _ hb,s1,if_true,zH j (by unfold zF; omega)]
  refine ⟨fun h=>?_,fun h=>?_⟩
  ·rw [hv,s2.2 h]; rfl
  ·rw [hv,Bool.eq_false_iff.2 fun h'=>h (s2.1 h')]; rfl
 ·simp only [RY,Tr.val,z8,zO,if_false]
theorem Kv {a b:List (Sem zh)} (hm:a.length≤1000000) (h:∀ x∈a,nX x):Ce a b=true∧(Cd a b=true↔a=b):=by
 obtain ⟨r,h1,h2⟩:=GP (b:=b) hm h
 refine ⟨by unfold Ce; rw [h1]; rfl,?_⟩
 have:Cd a b=r:=by unfold Cd; rw [h1]; rfl
 rw [this]; exact h2
noncomputable section
inductive H5w where
 | h9 (l1:List (Sem zf.sl)) (i2:Sem (Sh.int IntKind.u8)) (s7:Sem Sh.str) (l8:List (Sem zh)) (l9:List (Sem zh)) (i10:Int)
end

theorem ql.q {x:Sem zh} (h:ql x) (hr:cQ x):nX x:=by
 obtain ⟨_,_,_,h8,_⟩:=gu hr.may
 exact ⟨cC h8 (by omega),cC h.sh.uq (by omega),cC h.sh.rf (by omega),h.cp,cC h.sh.rw (by omega),fun r hr'=>cC (hr.len r hr') (by omega)⟩
theorem Ji (x:Int) (n:Nat) (h0:0≤x) (h1:x≤100000) (hn:0 < n) (hn2:n≤100000):IntKind.i64.wrap (x.tmod (n:Int))=((x.toNat % n:Nat):Int):=by
 obtain ⟨y,rfl⟩:=Int.eq_ofNat_of_zero_le h0
 have e:(Int.ofNat y).tmod (n:Int)=((y % n:Nat):Int):=rfl
 have hl:y % n < n:=Nat.mod_lt _ hn
 show IntKind.i64.wrap ((Int.ofNat y).tmod (n:Int))=_
 rw [e,wI _ (by omega) (by omega)]
 rfl

open Go

abbrev U0:Nat→Prop:=fun _=>False
abbrev fQ:Nat→Option Value:=fun _=>none

def KP (P:Program) (T:TypeId→Sh→Bool):List Field→Nat→Sh→Bool
 | [],_,_=>false
 | [f],off,s=>f.offset==off&&(T f.type s&&P.cellsOf f.type==s.size)
 | f::fs,off,.pr a b=>f.offset==off&&(T f.type a&&(P.cellsOf f.type==a.size&&KP P T fs (off+a.size) b))
 | _,_,_=>false

def mW (P:Program) (t:TypeId):Bool:=match P.underlying t with
 | some .string=>P.cellsOf t==1
 | _=>false

def H0 (P:Program) (t e:TypeId):Bool:=match P.underlying t with
 | some (.slice u)=>u==e&&P.cellsOf t==1
 | _=>false

def He (P:Program):Nat→TypeId→Sh→Bool
 | 0,_,_=>false
 | n+1,t,s=>match P.underlying t,s with
  | some .bool,.bool=>true
  | some (.int k),.int k'=>k==k'
  | some .string,.str=>true
  | some (.slice e),.sl s=>P.cellsOf e==s.size&&(decide (0 < s.size)&&He P n e s)
  | some (.struct fs),.expr=>match fs.toList with
   | [a,b,c,d]=>P.cellsOf t==6&&(a.offset==0&&(b.offset==1&&(c.offset==4&&(d.offset==5&&(mW P a.type&&(mW P c.type&&(H0 P d.type t&&(P.cellsOf b.type==3&&He P n b.type (.pr (.int .i64) (.pr (.int .i64) .str))))))))))
   | _=>false
  | some (.struct fs),.pr a b=>P.cellsOf t==(Sh.pr a b).size&&KP P (He P n) fs.toList 0 (.pr a b)
  | _,_=>false

section
variable {H:Type} {enc:TypeId×Value→H} {P:Program} {w:World} {sp:Nat→Bool} {held:Bool}

def WX (w:World) (s:Sh) (cs:List Value):Prop:=∃ x:Sem s,cr w U0 fQ (zl s x) cs∧∀ v∈cs,v.oneCell'=true

theorem bZ {α β:Type} {f:α→Option β} {a:α} {l:List α} {r:List β} (h:(a::l).mapM f=some r):∃ y ys,f a=some y∧l.mapM f=some ys∧r=y::ys:=by
 rw [List.mapM_cons] at h
 cases hy:f a with
 | none=>rw [hy] at h; simp at h
 | some y=>
  cases hys:l.mapM f with
  | none=>rw [hy,hys] at h; simp at h
  | some ys=>
   rw [hy,hys] at h
   simp at h
   exact ⟨y,ys,rfl,rfl,h.symm⟩

theorem Ej {α β:Type} {f:α→Option β}:∀ {l:List α} {r:List β},l.mapM f=some r→∀ x∈l,∃ y,f x=some y
 | [],_,_,_,hx=>by simp at hx
 | a::l,r,h,x,hx=>by
  obtain ⟨y,ys,h1,h2,_⟩:=bZ h
  rcases dW.1 hx with rfl | hx
  ·exact ⟨y,h1⟩
  ·exact Ej h2 x hx

theorem vS {α β:Type} {f:α→Option β}:∀ {l:List α} {r:List β},l.mapM f=some r→r.length=l.length∧∀ (i:Nat) a,l[i]?=some a→f a=r[i]?
 | [],r,h=>by simp at h; subst h; simp
 | a::l,r,h=>by
  obtain ⟨y,ys,h1,h2,rfl⟩:=bZ h
  obtain ⟨h3,h4⟩:=vS h2
  refine ⟨by simp [h3],fun i b hi=>?_⟩
  cases i with
  | zero=>simp at hi; subst hi; simpa using h1
  | succ i=>simpa using h4 i b (by simpa using hi)

theorem Df (a:Addr) (h:a.spot=none) (n:Nat):a.add n=⟨a.block,a.off+n,none⟩:=by
 obtain ⟨b,o,s⟩:=a
 simp only at h
 subst h
 unfold Addr.add
 split
 ·rename_i h; subst h; rfl
 ·rfl

theorem cr.take {cs:List AV} {vs:List Value} (h:cr w U0 fQ cs vs) (n:Nat):cr w U0 fQ (cs.take n) (vs.take n):=by
 refine ⟨by simp [h.len],fun j c v hc hv=>?_⟩
 rw [yo] at hc hv
 split at hc
 ·rename_i hj
  rw [if_pos hj] at hv
  exact h.rv j c v hc hv
 ·cases hc

theorem cr.appS {a b:List AV} {x y:List Value} (h:cr w U0 fQ a x) (h':cr w U0 fQ b y):cr w U0 fQ (a++b) (x++y):=by
 refine ⟨by simp [h.len,h'.len],fun j c v hc hv=>?_⟩
 by_cases hj:j < a.length
 ·rw [jG hj] at hc
  rw [jG (by rw [← h.len]; exact hj)] at hv
  exact h.rv j c v hc hv
 ·rw [kF (by omega)] at hc
  rw [kF (by rw [← h.len]; omega),← h.len] at hv
  exact h'.rv _ c v hc hv

theorem cr.one {c:AV} {v:Value} (h:Rv w U0 fQ c v):cr w U0 fQ [c] [v]:=by
 refine ⟨rfl,fun j d u hd hu=>?_⟩
 cases j with
 | zero=>simp at hd hu; subst hd; subst hu; exact h
 | succ j=>simp at hd

theorem vG {fuel:Nat} {T:TypeId→Sh→Bool} (hT:∀ t s cs d ps,T t s=true→DataW.trod enc P w 0 sp held fuel t cs=some (d,ps)→WX w s cs) {cs:List Value}:
  ∀ (fl:List Field) (off:Nat) (s:Sh) xs,KP P T fl off s=true→(fl.mapM fun f=>DataW.trod enc P w 0 sp held fuel f.type ((cs.drop f.offset).take (P.cellsOf f.type)))=some xs→WX w s ((cs.drop off).take s.size)
 | [],_,_,_,h,_=>by simp [KP] at h
 | [f],off,s,xs,h,hm=>by
  simp only [KP,aE,eQ] at h
  obtain ⟨h1,h2,h3⟩:=h
  obtain ⟨y,ys,hy,_,_⟩:=bZ hm
  rw [h1,h3] at hy
  exact hT _ _ _ _ _ h2 hy
 | f::g::fs,off,.pr a b,xs,h,hm=>by
  simp only [KP,aE,eQ] at h
  obtain ⟨h1,h2,h3,h4⟩:=h
  obtain ⟨y,ys,hy,hys,_⟩:=bZ hm
  rw [h1,h3] at hy
  obtain ⟨x1,r1,o1⟩:=hT _ _ _ _ _ h2 hy
  obtain ⟨x2,r2,o2⟩:=vG hT (g::fs) (off+a.size) b ys h4 hys
  have hl1:((cs.drop off).take a.size).length=a.size:=by rw [← r1.len,zL]
  have hsplit:(cs.drop off).take (a.size+b.size)=(cs.drop off).take a.size++(cs.drop (off+a.size)).take b.size:=by
   rw [List.take_add,List.drop_drop]
  refine ⟨(x1,x2),?_,?_⟩
  ·show cr w U0 fQ (zl a x1++zl b x2) ((cs.drop off).take (a.size+b.size))
   rw [hsplit]
   exact r1.appS r2
  ·intro v hv
   have hv:v∈(cs.drop off).take (a.size+b.size):=hv
   rw [hsplit,bB] at hv
   exact hv.elim (o1 v) (o2 v)
 | _::_::_,_,.unit,_,h,_=>by simp [KP] at h
 | _::_::_,_,.bool,_,h,_=>by simp [KP] at h
 | _::_::_,_,.int _,_,h,_=>by simp [KP] at h
 | _::_::_,_,.str,_,h,_=>by simp [KP] at h
 | _::_::_,_,.sl _,_,h,_=>by simp [KP] at h
 | _::_::_,_,.expr,_,h,_=>by simp [KP] at h

theorem AM {fuel:Nat} {t e:TypeId} {s:Sh} (ht:P.underlying t=some (.slice e)) (hc:P.cellsOf e=s.size) (hpos:0 < s.size)
  (hT:∀ cs d ps,DataW.trod enc P w 0 sp held fuel e cs=some (d,ps)→WX w s cs) {cs:List Value} {d:DataW H} {ps:List MemPlace} (h:DataW.trod enc P w 0 sp held (fuel+1) t cs=some (d,ps)):WX w (.sl s) cs:=by
 unfold DataW.trod at h
 rw [ht] at h
 split at h
 all_goals first
  | (rename_i hu; cases hu; done)
  | (rename_i hu _; cases hu; done)
  | (simp at h; done)
  | skip
 ·rename_i hu
  cases hu
  exact ⟨[],cr.one (.sl0 s none 0),by simp [Value.oneCell']⟩
 ·rename_i a len cap hu
  cases hu
  simp only [aD,true_and] at h
  split at h
  ·rename_i hcond
   rw [eO] at h
   obtain ⟨elems,he,_⟩:=h
   have hall:∀ i,∃ x:Sem s,i < len→∃ ci,w.cells? 0 (a.add (i * s.size)) s.size=some ci∧cr w U0 fQ (zl s x) ci:=by
    intro i
    by_cases hi:i < len
    ·obtain ⟨y,hy⟩:=Ej he i (by simpa using hi)
     rw [eO] at hy
     obtain ⟨ci,h1,h2⟩:=hy
     obtain ⟨x,hx,_⟩:=hT ci y.1 y.2 h2
     rw [hc] at h1
     exact ⟨x,fun _=>⟨ci,h1,hx⟩⟩
    ·exact ⟨zj s,fun h=>(hi h).elim⟩
   obtain ⟨X,hX⟩:=Classical.axiomOfChoice hall
   have hmax:maxLen=zF:=rfl
   cases len with
   | zero=>exact ⟨[],cr.one (.sl0 s (some a) cap),by simp [Value.oneCell']⟩
   | succ len=>
    have hcell:∀ i,i < len+1→∃ ci,ci.length=s.size∧(∀ j,j < s.size→w.cell? ((a.add (i * s.size)).add j)=ci[j]?)∧cr w U0 fQ (zl s (X i)) ci:=by
     intro i hi
     obtain ⟨ci,h1,h2⟩:=hX i hi
     unfold World.cells? at h1
     rw [if_pos (aD _)] at h1
     obtain ⟨h3,h4⟩:=vS h1
     refine ⟨ci,by simpa using h3,fun j hj=>?_,h2⟩
     exact h4 j j (by simp [hj])
    have hspot:a.spot=none:=by
     obtain ⟨ci,h1,h2,_⟩:=hcell 0 (by omega)
     have:=h2 0 hpos
     simp only [Nat.zero_mul,Addr.add,if_true] at this
     rw [zI (by omega)] at this
     unfold World.cell? at this
     split at this
     ·split at this
      ·cases this
      ·rename_i hs
       cases hsp:a.spot with
       | none=>rfl
       | some q=>rw [hsp] at hs; simp at hs
     ·cases this
    have hblk:a.block < w.heap.size:=by
     obtain ⟨ci,h1,h2,_⟩:=hcell 0 (by omega)
     have:=h2 0 hpos
     simp only [Nat.zero_mul,Addr.add,if_true] at this
     rw [zI (by omega)] at this
     have ha:a=⟨a.block,a.off,none⟩:=by rw [← hspot]
     rw [ha] at this
     exact Bd this
    have hci:∀ i,∃ ci:List Value,i < len+1→ci.length=s.size∧(∀ j,j < s.size→w.cell? ⟨a.block,a.off+i * s.size+j,none⟩=ci[j]?)∧cr w U0 fQ (zl s (X i)) ci:=by
     intro i
     by_cases hi:i < len+1
     ·obtain ⟨ci,h1,h2,h3⟩:=hcell i hi
      refine ⟨ci,fun _=>⟨h1,fun j hj=>?_,h3⟩⟩
      rw [← h2 j hj,Df a hspot,Df _ rfl]
     ·exact ⟨[],fun h=>(hi h).elim⟩
    obtain ⟨Cs,hCs⟩:=Classical.axiomOfChoice hci
    let l:List (Sem s):=(List.range (len+1)).map X
    have hl:l.length=len+1:=by simp [l]
    have hget:∀ i (hi:i < l.length),l[i]=X i:=by intro i hi; simp [l]
    refine ⟨l,cr.one ?_,by simp [Value.oneCell']⟩
    have ha:a=⟨a.block,a.off,none⟩:=by rw [← hspot]
    rw [ha,← hl]
    refine .sl s l a.block a.off cap (fun i j=>((Cs i)[j]?).getD undef) (by omega) (by omega) hblk (fun h=>h) ?_ ?_
    ·intro i j hi hj
     obtain ⟨h1,h2,_⟩:=hCs i (by omega)
     rw [h2 j hj,zI (by omega)]
     rfl
    ·intro i hi j c hc'
     obtain ⟨h1,_,h3⟩:=hCs i (by omega)
     rw [hget i hi] at hc'
     have hj:j < (Cs i).length:=by
      have:=(bG.1 hc').1
      rw [h3.len] at this
      exact this
     have:=h3.rv j c _ hc' (zI hj)
     rw [zI hj]
     exact this
  ·cases h

theorem CI {fuel:Nat} {t:TypeId} (ht:P.underlying t=some .string) {cs:List Value} {d:DataW H} {ps:List MemPlace} (h:DataW.trod enc P w 0 sp held fuel t cs=some (d,ps)):WX w .str cs:=by
 cases fuel with
 | zero=>simp [DataW.trod] at h
 | succ fuel=>
  unfold DataW.trod at h
  rw [ht] at h
  split at h
  all_goals first
   | (rename_i hu; cases hu; done)
   | (rename_i hu _; cases hu; done)
   | (simp at h; done)
   | skip
  rename_i s hu
  split at h
  ·rename_i hs
   refine ⟨s.data.toList,cr.one ?_,by simp [Value.oneCell']⟩
   have h9:maxLen=zF:=rfl
   have h8:s.size=s.data.toList.length:=rfl
   exact .str s.data.toList (by omega)
  ·cases h

theorem vM {t:TypeId} (h:mW P t=true):P.underlying t=some .string∧P.cellsOf t=1:=by
 unfold mW at h
 split at h
 ·rename_i hu; exact ⟨hu,by simpa using h⟩
 ·cases h

theorem MP {t e:TypeId} (h:H0 P t e=true):P.underlying t=some (.slice e)∧P.cellsOf t=1:=by
 unfold H0 at h
 split at h
 ·rename_i u hu
  simp only [aE,eQ] at h
  rw [← h.1]
  exact ⟨hu,h.2⟩
 ·cases h

theorem mz:∀ (fuel n:Nat) (t:TypeId) (s:Sh) (cs:List Value) (d:DataW H) (ps:List MemPlace),He P n t s=true→DataW.trod enc P w 0 sp held fuel t cs=some (d,ps)→WX w s cs
 | 0,_,_,_,_,_,_,_,h=>by simp [DataW.trod] at h
 | fuel+1,0,_,_,_,_,_,hty,_=>by simp [He] at hty
 | fuel+1,n+1,t,s,cs,d,ps,hty,h=>by
  have h0:=h
  unfold He at hty
  split at hty
  ·rename_i hu
   unfold DataW.trod at h
   rw [hu] at h
   split at h
   all_goals first
    | (rename_i hu'; cases hu'; done)
    | (rename_i hu' _; cases hu'; done)
    | (simp at h; done)
    | skip
   exact ⟨_,cr.one (.bool _),by simp [Value.oneCell']⟩
  ·rename_i k k' hu
   have hk:k=k':=by simpa using hty
   subst hk
   unfold DataW.trod at h
   rw [hu] at h
   split at h
   all_goals first
    | (rename_i hu'; cases hu'; done)
    | (rename_i hu' _; cases hu'; done)
    | (simp at h; done)
    | skip
   rename_i k1 k2 m hu'
   cases hu'
   split at h
   ·rename_i hw
    obtain ⟨rfl,hw⟩:=hw
    simp only [Lit.wf,aE,zZ] at hw
    exact ⟨m,cr.one (.int _ _ ⟨hw.1,hw.2⟩),by simp [Value.oneCell']⟩
   ·cases h
  ·rename_i hu
   exact CI hu h
  ·rename_i e s hu
   simp only [aE,eQ,zZ] at hty
   exact AM hu hty.1 hty.2.1 (fun cs d ps h=>mz fuel n e s cs d ps hty.2.2 h) h
  ·rename_i fs hu
   split at hty
   ·rename_i a b c d' hfs
    simp only [aE,eQ] at hty
    obtain ⟨hsz,ha,hb,hc,hd,sa,sc,sd,zb,tb⟩:=hty
    obtain ⟨sa,za⟩:=vM sa
    obtain ⟨sc,zc⟩:=vM sc
    obtain ⟨sd,zd⟩:=MP sd
    unfold DataW.trod at h
    rw [hu] at h
    simp only at h
    split at h
    ·rename_i hlen
     rw [c8] at h
     obtain ⟨xs,hm,_⟩:=h
     rw [hfs] at hm
     obtain ⟨ya,r1,ya1,hm,_⟩:=bZ hm
     obtain ⟨yb,r2,yb1,hm,_⟩:=bZ hm
     obtain ⟨yc,r3,yc1,hm,_⟩:=bZ hm
     obtain ⟨yd,r4,yd1,hm,_⟩:=bZ hm
     rw [ha,za] at ya1
     rw [hb,zb] at yb1
     rw [hc,zc] at yc1
     rw [hd,zd] at yd1
     obtain ⟨xa,ga,oa⟩:=CI sa ya1
     obtain ⟨xb,gb,ob⟩:=mz fuel n b.type _ _ _ _ tb yb1
     obtain ⟨xc,gc,oc⟩:=CI sc yc1
     have hgd:WX w (.sl .expr) ((cs.drop 5).take 1):=by
      cases fuel with
      | zero=>simp [DataW.trod] at yd1
      | succ fuel=>
       refine AM sd (by rw [hsz]; rfl) (by decide) (fun cs d ps h=>mz fuel (n+1) t .expr cs d ps ?_ h) yd1
       unfold He
       rw [hu]
       simp only [hfs,aE,eQ]
       refine ⟨hsz,ha,hb,hc,hd,?_,?_,?_,zb,tb⟩
       ·simp [mW,sa,za]
       ·simp [mW,sc,zc]
       ·simp [H0,sd,zd]
     obtain ⟨xd,gd,od⟩:=hgd
     have hl6:cs.length=6:=by rw [hlen,hsz]
     have hcs:cs=(cs.drop 0).take 1++((cs.drop 1).take 3++((cs.drop 4).take 1++(cs.drop 5).take 1)):=by
      match cs,hl6 with
      | [v0,v1,v2,v3,v4,v5],_=>rfl
     refine ⟨ze.mk xa xb xc xd,?_,?_⟩
     ·have hr:=ga.appS (gb.appS (gc.appS gd))
      rw [← hcs] at hr
      exact hr
     ·intro v hv
      rw [hcs] at hv
      simp only [bB] at hv
      rcases hv with hv | hv | hv | hv
      ·exact oa v hv
      ·exact ob v hv
      ·exact oc v hv
      ·exact od v hv
    ·cases h
   ·cases hty
  ·rename_i fs a b hu
   simp only [aE,eQ] at hty
   unfold DataW.trod at h
   rw [hu] at h
   simp only at h
   split at h
   ·rename_i hlen
    rw [c8] at h
    obtain ⟨xs,hm,_⟩:=h
    have:=vG (fun t s cs d ps h1 h2=>mz fuel n t s cs d ps h1 h2) fs.toList 0 (.pr a b) xs hty.2 hm
    rw [List.drop_zero,Ho (by rw [hlen,hty.1]; exact aM _)] at this
    exact this
   ·cases h
  ·cases hty
termination_by fuel=>fuel

theorem sM {n:Nat} {t:TypeId} {s:Sh} {v:Value} {d:DataW H} {ps:List MemPlace} (hty:He P n t s=true) (h:DataW.Trod enc P w 0 sp held t v d ps) (hagg:(∃ cs,v=.agg cs)↔s.isAgg=true) (hsc:s.isAgg=false→v.cells = #[v]):∃ x:Sem s,Rv w U0 fQ (zz s x) v:=by
 obtain ⟨fuel,h⟩:=h
 obtain ⟨x,hr,ho⟩:=mz fuel n t s _ d ps hty h
 refine ⟨x,?_⟩
 unfold zz
 cases hs:s.isAgg with
 | true=>
  obtain ⟨cs,rfl⟩:=hagg.2 hs
  simp only
  have:=Rv.agg (w:=w) (U:=U0) (ρ:=fQ) (zl s x) cs.toList hr.len ho hr.rv
  simpa using this
 | false=>
  simp only
  rw [hsc hs] at hr
  have hlen:=hr.len
  match he:zl s x,hlen with
  | [c],_=>
   rw [he] at hr
   exact hr.rv 0 c v rfl rfl
end
open Go Go.RowKit Go.ChangeShapes

theorem BQ {W W':World} (hos:W'.os=W.os) (hout:W'.output=W.output) (h:∀ b,b < W.heap.size→W'.heap[b]?=W.heap[b]?) (may:MemPlace→Prop):W.keptBut W' may:=by
 refine ⟨hos,hout,fun i hi=>?_⟩
 rw [h i hi]
 cases W.heap[i]? with
 | none=>rfl
 | some o=>
  cases o with
  | cells c t fr=>exact ⟨rfl,rfl,rfl,fun _ _=>rfl⟩
  | map es clock=>exact .inr ⟨rfl,rfl⟩
  | _=>rfl

section
variable {H:Type} {enc:TypeId×Value→H} {P:Program}

theorem Es {f:Func} {s:ChangeSpec} {fresh handsOn again:Bool} {W W':World} {args:Array Value} {v:Value} {ds gs:List (DataW H)} {before pa pv:List MemPlace}
  (hW:DataW.Whole enc P f.params.toList s.vars false W args.toList ds gs before)
  (hres:∀ (b:Nat) (sp:Nat→Bool) (hd:Bool),DataW.TrodAll enc P W' b sp hd f.resultTypes.toList (v.resultList f.resultTypes.size) (s.fn H (ds++gs)).results [])
  (hargs:∀ sp:Nat→Bool,(∀ p∈before,sp p.block=true)→DataW.TrodAll enc P W' 0 sp true f.params.toList args.toList (s.fn H (ds++gs)).args pa)
  (hvars:∀ sp:Nat→Bool,(∀ p∈before,sp p.block=true)→DataW.TrodVars enc P W' sp s.vars (s.fn H (ds++gs)).vars pv)
  (hps:before=pa++pv) (hk:W.keptBut W' (· ∈ before)) (hfz:∀ a:Addr,a.block < W.heap.size→W'.frozen? a=W.frozen? a)
  (hok:∀ (j:Nat) (t:TypeId) (r:Value),f.resultTypes[j]?=some t→(v.resultList f.resultTypes.size)[j]?=some r→Value.okWide P W' .any 0 t r):
  s.post enc P f false fresh handsOn again W args v W':=by
 have hold:∀ p∈before,(fun b=>decide (b < W.heap.size)) p.block=true:=fun p hp=>by simpa using hW.lt p hp
 have hlt:=hW.lt
 refine ⟨ds,gs,before,[],pa,pv,hW,hres _ _ _,hargs _ hold,hvars _ hold,World.keptBut_mono (fun p hp=>⟨hp,?_⟩) hk,fun _=>?_⟩
 ·rw [hps,bB] at hp
  exact Or.inr hp
 ·obtain ⟨_,_,_,_,_,hz,hn⟩:=hW
  refine ⟨hok,_,_,([]++pa)++pv,⟨[]++pa,pv,trodAll_append (hargs _ (fun _ _=>rfl)) (hres _ _ _),hvars _ (fun _ _=>rfl),rfl,?_,?_⟩,?_⟩
  ·intro b off hp
   have hp':MemPlace.cell b off∈before:=by rw [hps]; simpa using hp
   rw [hfz ⟨b,off,none⟩ (hlt _ hp')]
   exact hz b off hp'
  ·intro ha
   cases ha
  ·intro p hp _
   rw [hps]
   simpa using hp

theorem Kc {W:World} {r:Go.Reach} {b:Nat} {t:TypeId} {fs:Array Field} {v:Value} (ht:P.underlying t=some (.struct fs)) (h:Value.okWide P W r b t v):∃ cs,v=.agg cs:=by
 unfold Value.okWide at h
 rw [ht] at h
 obtain ⟨cs,rfl,_⟩:=h
 exact ⟨cs,rfl⟩

theorem NT {W:World} {r:Go.Reach} {b:Nat} {t e:TypeId} {v:Value} (ht:P.underlying t=some (.slice e)) (h:Value.okWide P W r b t v):∃ a n c,v=.slice a n c:=by
 unfold Value.okWide at h
 rw [ht] at h
 simp only at h
 unfold Cell.okWide at h
 rw [ht] at h
 unfold Cell.ok at h
 rw [ht] at h
 cases v <;> simp at h
 exact ⟨_,_,_,rfl⟩

theorem YP {W:World} {r:Go.Reach} {b:Nat} {t:TypeId} {k:IntKind} {v:Value} (ht:P.underlying t=some (.int k)) (h:Value.okWide P W r b t v):∃ n,v=.int k n:=by
 unfold Value.okWide at h
 rw [ht] at h
 simp only at h
 unfold Cell.okWide at h
 rw [ht] at h
 unfold Cell.ok at h
 rw [ht] at h
 cases v <;> simp at h
 exact ⟨_,by rw [h.1]⟩

theorem Gb {W:World} {r:Go.Reach} {b n:Nat} {t:TypeId} {fs:Array Field} {s:Sh} {v:Value} {d:DataW H} {ps:List MemPlace} (hty:He P n t s=true) (hs:s.isAgg=true) (ht:P.underlying t=some (.struct fs)) (hok:Value.okWide P W r b t v)
  (h:DataW.Trod enc P W 0 (fun _=>true) true t v d ps):∃ x:Sem s,Rv W U0 fQ (zz s x) v:=by
 refine sM hty h ⟨fun _=>hs,fun _=>Kc ht hok⟩ (fun h'=>?_)
 rw [hs] at h'; cases h'
theorem J3 {W:World} {r:Go.Reach} {b n:Nat} {t e:TypeId} {s:Sh} {v:Value} {d:DataW H} {ps:List MemPlace} (hty:He P n t (.sl s)=true) (ht:P.underlying t=some (.slice e)) (hok:Value.okWide P W r b t v)
  (h:DataW.Trod enc P W 0 (fun _=>true) true t v d ps):∃ x:List (Sem s),Rv W U0 fQ (.sl s x) v:=by
 obtain ⟨a,m,c,rfl⟩:=NT ht hok
 exact sM (s:=.sl s) hty h ⟨(fun ⟨_,hh⟩=>(by cases hh)),(fun hh=>(by cases hh))⟩ (fun _=>rfl)
theorem Rd {W:World} {r:Go.Reach} {b n:Nat} {t:TypeId} {k:IntKind} {v:Value} {d:DataW H} {ps:List MemPlace} (hty:He P n t (.int k)=true) (ht:P.underlying t=some (.int k)) (hok:Value.okWide P W r b t v)
  (h:DataW.Trod enc P W 0 (fun _=>true) true t v d ps):∃ x:Int,Rv W U0 fQ (.int k x) v:=by
 obtain ⟨m,rfl⟩:=YP ht hok
 exact sM (s:=.int k) hty h ⟨(fun ⟨_,hh⟩=>(by cases hh)),(fun hh=>(by cases hh))⟩ (fun _=>rfl)

theorem Fx {gl:Nat→AV} {k:FuncId} {F:zD} (hF:lF P gl k F) {W:World} {f6:List AV} {args:Array Value} (hgl:xG gl W U0) (hr:cr W U0 fQ f6 args.toList) (hv:(F f6 (fun _=>.dead) 0).val=some { val:=.bool true }) (hid:AV.idsL f6=[]):
  Calls P k args W fun e W'=>e=.returned (.bool true)∧jo W W'∧∀ b,b < W.heap.size→W'.heap[b]?=W.heap[b]?:=by
 have:=(hF.calls W U0 fQ (fun _=>.dead) 0 f6 args.toList _ [] hv hr (fun _ h=>h.elim) hgl ⟨by simp,by simp⟩ (by rw [hid]; simp) (by simp) (by simp)).1
 rw [show args.toList.toArray=args by simp] at this
 refine this.mono ?_
 rintro e w' ⟨v,U',ρ',rfl,hef⟩
 have hv':=hef.val
 cases hv'
 exact ⟨rfl,hef.ext,fun b hb=>hef.same b hb (by simp)⟩
end
open Go Go.Proofs Go.RowKit Go.ChangeShapes Go.WideShapes Go.ChangeAt Go.Proofs.YtiefilkilbdpgaaGreatDoor

theorem Eh {P:Program} {w:World}:∀ {l:List (String×DataW Unit)} {ps:List MemPlace},DataW.LaidVars P w l ps→∀ n d,(n,d)∈l→
  ∃ g t cs fuel p,P.globalNamed n=some g∧(P.globals[g]?).map (·.type)=some t∧w.var? P n=some cs∧DataW.trod (fun _=>()) P w 0 (fun _=>true) false fuel t cs.toList=some (d,p)
 | [],_,_,_,_,h=>by simp at h
 | (n0,d0)::r,ps,h,n,d,hm=>by
  obtain ⟨g,t,cs,fuel,p,q,h1,h2,h3,h4,h5,_⟩:=h
  rcases dW.1 hm with e | hm
  ·cases e
   exact ⟨g,t,cs,fuel,p,h1,h2,h3,h4⟩
  ·exact Eh h5 n d hm

theorem BU {P:Program} {l:List (String×DataW Unit)} {w:World} (hf:(l.filter fun x=>x.2.handleName?.isSome).isEmpty=true) (h:laidMetH P l w):laidMet P l w:=by
 unfold laidMetH at h
 split at h
 ·exact h
 ·rename_i a b hab
  rw [hab] at hf
  simp at hf

theorem mA {H:Type} {enc:TypeId×Value→H} {P:Program} {w:World} {base:Nat} {sp:Nat→Bool} {held:Bool} {fuel:Nat} {t:TypeId} (ht:P.underlying t=some .string) {cs:List Value} {b:List UInt8} {p:List MemPlace}
  (h:DataW.trod enc P w base sp held fuel t cs=some (.lit (.string b),p)):cs=[.string ⟨b.toArray⟩]:=by
 cases fuel with
 | zero=>simp [DataW.trod] at h
 | succ fuel=>
  unfold DataW.trod at h
  rw [ht] at h
  split at h
  all_goals first
   | (rename_i hu; cases hu; done)
   | (rename_i hu _; cases hu; done)
   | (simp at h; done)
   | skip
  rename_i s hu
  split at h
  ·simp only [ag,bu,DataW.lit.injEq,Lit.string.injEq] at h
   rw [← h.1]
  ·cases h

theorem O7 {H:Type} {enc:TypeId×Value→H} {P:Program} {w:World} {base:Nat} {sp:Nat→Bool} {held:Bool} {fuel:Nat} {t:TypeId} (ht:P.underlying t=some (.int .u64)) {cs:List Value} {z:Int} {p:List MemPlace}
  (h:DataW.trod enc P w base sp held fuel t cs=some (.lit (.int .u64 z),p)):cs=[.int .u64 z]:=by
 cases fuel with
 | zero=>simp [DataW.trod] at h
 | succ fuel=>
  unfold DataW.trod at h
  rw [ht] at h
  split at h
  all_goals first
   | (rename_i hu; cases hu; done)
   | (rename_i hu _; cases hu; done)
   | (simp at h; done)
   | skip
  all_goals (try split at h)
  all_goals first
   | (cases h; done)
   | (simp at h; done)
   | skip
  all_goals simp_all

theorem yv {W:World} {l:List (String×DataW Unit)} (h:laidMet Tryz.prog l W) {name:String} {g:Nat} {t e:TypeId} {len:Nat} {ds:List (DataW Unit)} (hm:(name,DataW.agg ds)∈l)
  (hg:Tryz.prog.globalNamed name=some g) (ht:(Tryz.prog.globals[g]?).map (·.type)=some t) (hu:Tryz.prog.underlying t=some (.array len e)) (hc:Tryz.prog.cellsOf e=1):
  ∃ cs T fr,W.heap[g]?=some (.cells cs T fr)∧∀ (j:Nat) d,ds[j]?=some d→∃ fuel p,DataW.trod (fun _=>()) Tryz.prog W 0 (fun _=>true) false fuel e ((cs.toList.drop j).take 1)=some (d,p):=by
 obtain ⟨ps,hL,_,_⟩:=h
 obtain ⟨g',t',cs,fuel,p,h1,h2,h3,h4⟩:=Eh hL name _ hm
 rw [hg] at h1
 cases h1
 rw [ht] at h2
 cases h2
 have hvar:∃ T fr,W.heap[g]?=some (.cells cs T fr):=by
  unfold World.var? at h3
  rw [hg] at h3
  simp only [Option.bind_some] at h3
  split at h3
  ·rename_i c T fr hh
   cases h3
   exact ⟨T,fr,hh⟩
  ·cases h3
 obtain ⟨T,fr,hblk⟩:=hvar
 refine ⟨cs,T,fr,hblk,?_⟩
 cases fuel with
 | zero=>simp [DataW.trod] at h4
 | succ fuel=>
  unfold DataW.trod at h4
  rw [hu] at h4
  simp only at h4
  split at h4
  ·rw [c8] at h4
   obtain ⟨xs,hm',hx⟩:=h4
   simp only [bu,DataW.agg.injEq] at hx
   obtain ⟨hl,hg'⟩:=vS hm'
   intro j d hj
   rw [← hx.1,de,c8] at hj
   obtain ⟨⟨d',p'⟩,hj,rfl⟩:=hj
   have hjl:j < xs.length:=(bG.1 hj).1
   have hr:(List.range len)[j]?=some j:=by
    rw [ym]
    rw [hl,List.length_range] at hjl
    exact hjl
   have:=hg' j j hr
   rw [hj,hc,Nat.mul_one] at this
   exact ⟨fuel,p',this⟩
  ·cases h4

theorem Jg {cs:Array Value} {j:Nat} {v:Value} (h:(cs.toList.drop j).take 1=[v]):cs[j]?=some v:=by
 have:=congrArg (·[0]?) h
 simp only [yo,nA] at this
 simpa using this

theorem gl0 {W:World} {l:List (String×DataW Unit)} (h:laidMet Tryz.prog l W) (hm:("caddis/stmt.types",Rows.laid_caddis_stmt_types)∈l):Rv W U0 fQ (.eptr [.str [73,78,84],.str [84,69,88,84],.str [66,79,79,76]] 0) (.pointer (some ⟨0,0,none⟩)):=by
 obtain ⟨cs,T,fr,hb,hd⟩:=yv h (g:=0) (t:=248) (e:=9) (len:=3) hm (by kernel_rfl) (by kernel_rfl) (by kernel_rfl) (by kernel_rfl)
 have hs9:Tryz.prog.underlying 9=some .string:=by kernel_rfl
 have hcell:∀ j,W.cell? ⟨0,j,none⟩=cs[j]?:=by
  intro j
  unfold World.cell?
  rw [hb]
  rfl
 obtain ⟨_,_,g0⟩:=hd 0 _ rfl
 obtain ⟨_,_,g1⟩:=hd 1 _ rfl
 obtain ⟨_,_,g2⟩:=hd 2 _ rfl
 have w0:=Jg (mA hs9 g0)
 have w1:=Jg (mA hs9 g1)
 have w2:=Jg (mA hs9 g2)
 refine .eptr [.str [73,78,84],.str [84,69,88,84],.str [66,79,79,76]] 0 0 0 (fun j=>match j with
  | 0=>.string ⟨#[73,78,84]⟩
  | 1=>.string ⟨#[84,69,88,84]⟩
  | _=>.string ⟨#[66,79,79,76]⟩) (Bd (by rw [hcell]; exact w0)) (fun h=>h) ?_ ?_ ?_
 ·intro j hj
  match j,hj with
  | 0,_=>rw [hcell]; exact w0
  | 1,_=>rw [hcell]; exact w1
  | 2,_=>rw [hcell]; exact w2
 ·intro j hj
  match j,hj with
  | 0,_=>rfl
  | 1,_=>rfl
  | 2,_=>rfl
 ·intro j c hc
  match j,hc with
  | 0,hc=>simp at hc; subst hc; exact .str [73,78,84] (by simp [zF])
  | 1,hc=>simp at hc; subst hc; exact .str [84,69,88,84] (by simp [zF])
  | 2,hc=>simp at hc; subst hc; exact .str [66,79,79,76] (by simp [zF])
  | j+3,hc=>simp at hc

set_option maxRecDepth 100000 in
theorem gl2 {W:World} (h:W.ShapedOpen Tryz.prog):Rv W U0 fQ .gint (.pointer (some ⟨2,0,none⟩)):=by
 have h0:((begin Tryz.prog (fun _ _=>0) default).world.heap[2]?).bind Obj.row?=some (#[.int .i64 0],3):=by kernel_rfl
 obtain ⟨cs,hh,hs,hr⟩:=h.1 2 _ _ (dG (by kernel_rfl)) h0
 obtain ⟨ts,hts,_,hall⟩:=hr (by kernel_rfl)
 have hc:Tryz.prog.cellTypes Tryz.prog.depth 3=some [3]:=by kernel_rfl
 rw [hc] at hts
 cases hts
 have h1:cs.size=1:=hs
 obtain ⟨u,hu,hok⟩:=hall 0 cs[0] (by simp)
 have:u=3:=by simpa using hu.symm
 subst this
 have hi:Tryz.prog.underlying 3=some (.int .i64):=by kernel_rfl
 unfold Cell.ok at hok
 rw [hi] at hok
 have hcs:cs = #[cs[0]]:=by
  apply Array.ext
  ·simp [h1]
  ·intro i h2 h3
   have:i=0:=by omega
   subst this
   rfl
 cases hv:cs[0] <;> rw [hv] at hok <;> simp at hok
 rename_i k n
 obtain ⟨rfl,hn⟩:=hok
 refine .gint n 2 3 (0,0) hn ?_ (fun h=>h)
 rw [hh,hcs,hv]

theorem gl5 {W:World} {l:List (String×DataW Unit)} (h:laidMet Tryz.prog l W) (hs:W.ShapedOpen Tryz.prog) (hm:("internal/strconv.uint64pow10",Rows.laid_internal_strconv_uint64pow10)∈l):Rv W U0 fQ (.tab .u64 jM) (.pointer (some ⟨5,0,none⟩)):=by
 obtain ⟨cs,T,fr,hb,hd⟩:=yv h (g:=5) (t:=314) (e:=296) (len:=20) hm (by kernel_rfl) (by kernel_rfl) (by kernel_rfl) (by kernel_rfl)
 have hu:Tryz.prog.underlying 296=some (.int .u64):=by kernel_rfl
 have h0:((begin Tryz.prog (fun _ _=>0) default).world.heap[5]?).bind Obj.row?=some (Array.replicate 20 (.int .u64 0),314):=by kernel_rfl
 obtain ⟨cs',hh,hsz,_⟩:=hs.1 5 _ _ (dG (by kernel_rfl)) h0
 rw [hb] at hh
 have hcs:cs=cs':=by simp only [ag,Obj.cells.injEq] at hh; exact hh.1
 have hlen:cs.size=20:=by rw [hcs,hsz]; simp
 have key:cs=(jM.map fun z=>Value.int .u64 z).toArray:=by
  apply Array.ext
  ·rw [hlen]; rfl
  ·intro i h1 h2
   have hd':∀ (j:Nat) z,jM[j]?=some z→cs[j]?=some (.int .u64 z):=by
    intro j z hz
    obtain ⟨_,_,g⟩:=hd j (.lit (.int .u64 z)) (by
     have:(match (Rows.laid_internal_strconv_uint64pow10:DataW Unit) with | .agg l=>l | _=>[])=jM.map fun z=>DataW.lit (.int .u64 z):=by kernel_rfl
     have e2:(match (Rows.laid_internal_strconv_uint64pow10:DataW Unit) with | .agg l=>l | _=>[])[j]?=some (.lit (.int .u64 z)):=by
      rw [this,de,hz]
      rfl
     exact e2)
    exact Jg (O7 hu g)
   have hi:i < jM.length:=by simpa using h2
   have:=hd' i jM[i] (zI hi)
   rw [im h1,ag] at this
   rw [this,List.getElem_toArray,List.getElem_map]
 exact .tab .u64 jM 5 T fr (by rw [hb,key]) (fun h=>h)


theorem Nt:laidOutB Tryz.prog=true:=by kernel_rfl
def qS (P:Program) (t:TypeId):Bool:=match P.underlying t with
 | some (.struct _)=>true
 | _=>false
theorem BP {P:Program} {t:TypeId} (h:qS P t=true):∃ fs,P.underlying t=some (.struct fs):=by
 unfold qS at h
 split at h
 ·exact ⟨_,‹_›⟩
 ·cases h
theorem un4:Tryz.prog.underlying 4=some .bool:=by kernel_rfl

theorem zgv {H:Type} {enc:TypeId×Value→H} {W W':World} (hsame:∀ b,b < W.heap.size→W'.heap[b]?=W.heap[b]?) {t:TypeId} {v:Value} {d:DataW H} {ps:List MemPlace} (hr:Tryz.prog.readableRec t=true) (hrow:t < Tryz.prog.types.size)
  (h:DataW.Trod enc Tryz.prog W 0 (fun _=>true) true t v d ps) (hlt:∀ p∈ps,p.block < W.heap.size) {sp:Nat→Bool} (hs:∀ p∈ps,sp p.block=true):DataW.Trod enc Tryz.prog W' 0 sp true t v d ps:=
 WideElems.Trod_stays Nt hr hrow h (fun p hp=>by
  have h1:=hsame p.block (hlt p hp)
  cases p with
  | cell b off=>exact World.cell?_of_block h1
  | map b=>exact h1) hs

theorem Ra {W:World} {l:List (String×DataW Unit)} (hL:laidMet Tryz.prog l W) (hs:W.ShapedOpen Tryz.prog) (h0:("caddis/stmt.types",Rows.laid_caddis_stmt_types)∈l) (h5:("internal/strconv.uint64pow10",Rows.laid_internal_strconv_uint64pow10)∈l):xG JX W U0:=by
 intro g
 match g with
 | 0=>exact gl0 hL h0
 | 1=>exact .any _
 | 2=>exact gl2 hs
 | 3=>exact .any _
 | 4=>exact .any _
 | 5=>exact gl5 hL hs h5
 | g+6=>exact .any _

theorem Kb {P:Program} {W:World} {r:Go.Reach} {b:Nat} {t:TypeId} {v:Value} (ht:P.underlying t=some .string) (h:Value.okWide P W r b t v):∃ n,v=.string n:=by
 unfold Value.okWide at h
 rw [ht] at h
 simp only at h
 unfold Cell.okWide at h
 rw [ht] at h
 unfold Cell.ok at h
 rw [ht] at h
 cases v <;> simp at h
 exact ⟨_,rfl⟩

structure sD (t:TypeId) (s:Sh):Prop where
 got:∀ {H:Type} {enc:TypeId×Value→H} {W:World} {r:Go.Reach} {b:Nat} {v:Value} {d:DataW H} {ps:List MemPlace},Value.okWide Tryz.prog W r b t v→DataW.Trod enc Tryz.prog W 0 (fun _=>true) true t v d ps→∃ x:Sem s,Rv W U0 fQ (zz s x) v
 rd:Tryz.prog.readableRec t=true
 row:t < Tryz.prog.types.size

set_option maxRecDepth 100000 in
theorem sD.struct {t:TypeId} {s:Sh} {n:Nat} (hty:He Tryz.prog n t s=true) (hs:s.isAgg=true) (ht:qS Tryz.prog t=true) (rd:Tryz.prog.readableRec t=true) (row:t < Tryz.prog.types.size):sD t s where
 got:=fun hok h=>by
  obtain ⟨fs,hu⟩:=BP ht
  exact Gb hty hs hu hok h
 rd:=rd
 row:=row
set_option maxRecDepth 100000 in
theorem sD.slice {t e:TypeId} {s:Sh} {n:Nat} (hty:He Tryz.prog n t (.sl s)=true) (ht:Tryz.prog.underlying t=some (.slice e)) (rd:Tryz.prog.readableRec t=true) (row:t < Tryz.prog.types.size):sD t (.sl s) where
 got:=fun hok h=>J3 hty ht hok h
 rd:=rd
 row:=row
set_option maxRecDepth 100000 in
theorem sD.int {t:TypeId} {k:IntKind} {n:Nat} (hty:He Tryz.prog n t (.int k)=true) (ht:Tryz.prog.underlying t=some (.int k)) (rd:Tryz.prog.readableRec t=true) (row:t < Tryz.prog.types.size):sD t (.int k) where
 got:=fun hok h=>Rd hty ht hok h
 rd:=rd
 row:=row
set_option maxRecDepth 100000 in
theorem sD.str {t:TypeId} {n:Nat} (hty:He Tryz.prog n t .str=true) (ht:Tryz.prog.underlying t=some .string) (rd:Tryz.prog.readableRec t=true) (row:t < Tryz.prog.types.size):sD t .str where
 got:=fun hok h=>by
  obtain ⟨m,rfl⟩:=Kb ht hok
  exact sM (s:=.str) hty h ⟨(fun ⟨_,hh⟩=>(by cases hh)),(fun hh=>(by cases hh))⟩ (fun _=>rfl)
 rd:=rd
 row:=row

inductive Fs:List TypeId→List Sh→Prop
 | nil:Fs [] []
 | cons {t:TypeId} {s:Sh} {ts:List TypeId} {ss:List Sh} (h:sD t s) (r:Fs ts ss):Fs (t::ts) (s::ss)

set_option maxRecDepth 100000 in
theorem Fs.got {ts:List TypeId} {ss:List Sh} (h:Fs ts ss):∀ {H:Type} {enc:TypeId×Value→H} {W:World} {base:Nat} {vs:List Value} {ds:List (DataW H)} {ps:List MemPlace},
  (∀ (j:Nat) t v,ts[j]?=some t→vs[j]?=some v→Value.okWide Tryz.prog W .any base t v)→DataW.TrodAll enc Tryz.prog W 0 (fun _=>true) true ts vs ds ps→
  ds.length=ts.length∧(∃ x:zw (ss.map some),cr W U0 fQ (f6 (ss.map some) x) vs)∧
  ∀ W',(∀ b,b < W.heap.size→W'.heap[b]?=W.heap[b]?)→(∀ p∈ps,p.block < W.heap.size)→∀ sp:Nat→Bool,(∀ p∈ps,sp p.block=true)→DataW.TrodAll enc Tryz.prog W' 0 sp true ts vs ds ps:=by
 induction h with
 | nil=>
  intro H enc W base vs ds ps _ hT
  obtain ⟨rfl,rfl,rfl⟩:=trodAll_nil hT
  exact ⟨rfl,⟨(),rfl,fun j c v hc=>by
   have h0:([]:List AV)[j]?=some c:=hc
   simp at h0⟩,fun _ _ _ _ _=>trodAll_mk0⟩
 | @cons t s ts ss h r IH=>
  intro H enc W base vs ds ps hok hT
  obtain ⟨v,vs,d,ds,p,q,rfl,rfl,rfl,hd,hrest⟩:=trodAll_cons hT
  obtain ⟨x,hx⟩:=h.got (hok 0 t v rfl rfl) hd
  obtain ⟨hl,⟨y,hy⟩,hk⟩:=IH (fun j t v ht hv=>hok (j+1) t v ht hv) hrest
  refine ⟨by simp [hl],⟨(x,y),by show (zz s x::f6 (ss.map some) y).length=_; simp [hy.len],fun j c v' hc hv=>?_⟩,fun W' hsame hlt sp hsp=>?_⟩
  ·have hc:(zz s x::f6 (ss.map some) y)[j]?=some c:=hc
   cases j with
   | zero=>
    simp only [List.getElem?_cons_zero,ag] at hc hv
    subst hc
    subst hv
    exact hx
   | succ j=>exact hy.rv j c v' hc hv
  ·exact trodAll_cons_mk (zgv hsame h.rd h.row hd (fun p hp=>hlt p (by simp [hp])) (fun p hp=>hsp p (by simp [hp]))) (hk W' hsame (fun p hp=>hlt p (by simp [hp])) sp (fun p hp=>hsp p (by simp [hp])))

theorem Hu:∀ (ss:List Sh) (x:zw (ss.map some)),AV.idsL (f6 (ss.map some) x)=[]
 | [],_=>rfl
 | s::ss,x=>by
  show (zz s x.1).ids++AV.idsL (f6 (ss.map some) x.2)=[]
  rw [Hu ss x.2,nB]
  unfold zz
  have hL:∀ l:List AV,(∀ c∈l,c.ids=[])→AV.idsL l=[]:=by
   intro l
   induction l with
   | nil=>intro _; rfl
   | cons c l ih=>intro h; simp only [AV.idsL,h c (by simp),ih fun c hc=>h c (by simp [hc]),nB]
  have hE:∀ c∈zl s x.1,c.ids=[]:=fun c hc=>by
   obtain ⟨j,hj,rfl⟩:=Dj hc
   exact jv s x.1 j _ (zI hj)
  cases s.isAgg with
  | true=>exact hL _ hE
  | false=>
   cases hh:zl s x.1 with
   | nil=>rfl
   | cons c l=>exact hE c (by rw [hh]; simp)

set_option maxRecDepth 100000 in
theorem JB {k:FuncId} {f:Func} {s:ChangeSpec} {F:zD} {ts:List TypeId} {ss:List Sh} (hF:lF Tryz.prog JX k F) (hpar:f.params=ts.toArray) (hp:Fs ts ss) (hrt:f.resultTypes = #[4]) (hvars:s.vars=[])
  (hfn:∀ (H:Type) (ds:List (DataW H)),ds.length=ts.length→s.fn H ds={ results:=[.lit (.bool true)],args:=ds })
  {H:Type} {enc:TypeId×Value→H} {W:World} {base:Nat} {args:Array Value} {ds gs:List (DataW H)} {before:List MemPlace}
  (hv:∀ x:zw (ss.map some),cr W U0 fQ (f6 (ss.map some) x) args.toList→(F (f6 (ss.map some) x) (fun _=>.dead) 0).val=some { val:=.bool true })
  (hval:∀ (j:Nat) t v,f.params[j]?=some t→args[j]?=some v→Value.okWide Tryz.prog W .any base t v)
  (hW:DataW.Whole enc Tryz.prog f.params.toList s.vars false W args.toList ds gs before) (hgl:xG JX W U0):
  Calls Tryz.prog k args W fun e W'=>∃ v,e=.returned v∧s.post enc Tryz.prog f false true false false W args v W':=by
 have hW':=hW
 obtain ⟨p,q,hA0,hV,rfl,hfz,hnd⟩:=hW
 have hA:DataW.TrodAll enc Tryz.prog W 0 (fun _=>true) true f.params.toList args.toList ds p:=hA0
 rw [hpar] at hA
 rw [hvars] at hV
 obtain ⟨rfl,rfl⟩:=trodVars_none hV
 have hlt:=hW'.lt
 obtain ⟨hl,⟨x,hx⟩,hk⟩:=hp.got (base:=base) (fun j t v ht hv=>hval j t v (by rw [hpar]; simpa using ht) (by simpa using hv)) hA
 have hc:=Fx hF (args:=args) hgl hx (hv x hx) (Hu ss x)
 refine hc.mono fun e' W' ⟨he,hext,hsame⟩=>?_
 subst he
 have hf2:s.fn H (ds++[])={ results:=[.lit (.bool true)],args:=ds }:=by rw [nB]; exact hfn H ds hl
 refine ⟨_,rfl,Es (pa:=p) (pv:=[]) hW' (fun _ _ _=>?_) (fun sp hsp=>?_) (fun _ _=>?_) (by simp) (BQ hext.os hext.out hsame _) hext.fr (ok_one hrt rfl (okWide_bool_mk un4 _))⟩
 ·rw [hf2,hrt]
  exact trodAll_cons_mk (shut_bool un4 _) trodAll_mk0
 ·rw [hf2,hpar]
  exact hk W' hsame (fun p hp=>hlt p (by simpa using hp)) sp (fun p hp=>hsp p (by simpa using hp))
 ·rw [hf2,hvars]
  rfl

theorem BT (x:Sem zh):nX (gL x):=by
 have h:=Eg x
 have hc:=h.tab.cols
 have hu:=h.tab.uq
 have hf:=h.tab.rf
 have hr:=h.rows
 refine ⟨by omega,by omega,by omega,(pq x).cp,by omega,fun r hm=>?_⟩
 obtain ⟨rows,h1,h2⟩:=me x
 have h3:gL x=(iD x.1,rows):=by unfold gL; rw [h2]; rfl
 rw [h3] at hm
 obtain ⟨r0,_,rfl⟩:=h1.2 r hm
 have:=J8 r0
 omega
theorem NA {db:List (Sem zh)} {x:Sem zh} {k:Nat} (hB:dS db) (hk:k < db.length) (hx:db.getD k (zj zh)=x):∃ i,aF db x.1.1=((i:Nat):Int)∧db.getD i (zj zh)=x:=by
 have hpw:db.Pairwise fun x y:Sem zh=>Op.bytesLess x.1.1 y.1.1=true:=(tr (R:=fun x y:Sem zh=>Op.bytesLess x.1.1 y.1.1=true) hJ).1 hB.names
 have hxk:db[k]=x:=by rw [← hx,aB,zI hk]; rfl
 rcases mc (fun y:Sem zh=>y.1.1==x.1.1) db 0 with ⟨_,q⟩ | ⟨i,hi,q1,q2,_⟩
 ·exfalso
  have:=q x (by rw [← hxk]; exact cx hk)
  simp at this
 ·have q1:aF db x.1.1=((0+i:Nat):Int):=q1.trans (by simp)
  rw [iU] at q1
  refine ⟨i,q1,?_⟩
  have q2:db[i].1.1=x.1.1:=by simpa using q2
  have:i=k:=by
   rcases Nat.lt_trichotomy i k with h | h | h
   ·have:=List.pairwise_iff_getElem.1 hpw i k hi hk h
    rw [q2,hxk,di] at this
    cases this
   ·exact h
   ·have:=List.pairwise_iff_getElem.1 hpw k i hk hi h
    rw [q2,hxk,di] at this
    cases this
  rw [this]; exact hx

theorem Ns (x0:List (Sem zh)) (w:ze) (x2:Int) (hw:IE w) (h0:0≤x2) (h1:x2≤65535):qW x0 w x2=some (true,()):=by
 obtain ⟨db,d1,d2,d3⟩:=Np x0
 have hdb:jb x0=db:=by unfold jb; rw [d1]; rfl
 have hdc:Gr x0=true:=by unfold Gr; rw [d1]; rfl
 have hwf:∀ x∈db,WfR x:=by
  intro x hxm
  obtain ⟨y,hy,rfl⟩:=d3 x hxm
  exact Eg y
 have hsh:∀ x∈db,ql x:=by
  intro x hxm
  obtain ⟨y,hy,rfl⟩:=d3 x hxm
  exact pq y
 have hsq:∀ x∈db,nX x:=by
  intro x hxm
  obtain ⟨y,hy,rfl⟩:=d3 x hxm
  exact BT y
 obtain ⟨k1,kG⟩:=Ku hwf
 obtain ⟨e,k2⟩:∃ e:Int,Cc db=e:=⟨_,rfl⟩
 rw [k2] at kG
 have fin:∀ {v:Bool},(i8w x0 w x2).val=some (.inr (.bool v,[]))→v=true→qW x0 w x2=some (true,()):=by
  intro v h e
  subst e
  exact gN h rfl
 cases hc:(bif e != 0 then true else (db.length:Int)==0) with
 | true=>
  refine fin (v:=yx) ?_ Hv
  simp only [i8w,Tr.val,hdb,hdc,k1,k2,hc,if_true]
 | false=>
  have he:e=0:=by
   cases h:(e != 0) with
   | true=>rw [h] at hc; cases hc
   | false=>simpa using h
  subst he
  simp only [oS,bR] at hc
  have hne:db≠[]:=by simpa using hc
  have hdl:0 < db.length:=List.length_pos_iff.2 hne
  have ea:IntKind.i64.wrap ((IntKind.i64.wrap x2).tmod (db.length:Int))=((x2.toNat % db.length:Nat):Int):=by
   rw [wI x2 (by omega) (by omega),Ji _ _ h0 (by omega) hdl (by omega)]
  have hk:x2.toNat % db.length < db.length:=Nat.mod_lt _ hdl
  have e2:zE ((x2.toNat % db.length:Nat):Int) db.length=true:=zG hk
  have e3:((db.length:Int) != 0)=true:=by simpa using hne
  generalize hkk:x2.toNat % db.length=k at ea hk e2
  obtain ⟨x,hxk⟩:∃ x,db.getD k (zj zh)=x:=⟨_,rfl⟩
  have hxm:x∈db:=by
   rw [← hxk]
   exact bc hk
  have hx:=hwf x hxm
  obtain ⟨hG,_⟩:=kG rfl x hxm
  have hcl:0 < x.1.2.1.length:=by
   obtain ⟨q1,q2⟩:=BL hG.key
   omega
  have hcl2:=hx.tab.cols
  have eb:IntKind.i64.wrap ((IntKind.i64.wrap (IntKind.u16.wrap (Int.tdiv x2 16))).tmod (x.1.2.1.length:Int))=((x2.toNat / 16 % x.1.2.1.length:Nat):Int):=by
   have e4:Int.tdiv x2 16=((x2.toNat / 16:Nat):Int):=by
    obtain ⟨y,rfl⟩:=Int.eq_ofNat_of_zero_le h0
    rfl
   have e5:IntKind.u16.wrap ((x2.toNat / 16:Nat):Int)=((x2.toNat / 16:Nat):Int):=by
    simp only [IntKind.wrap,IntKind.bits,IntKind.signed]
    simp
    omega
   rw [e4,e5,wI ((x2.toNat / 16:Nat):Int) (by omega) (by omega),Ji _ _ (by omega) (by omega) hcl (by omega),bl]
  have hj:x2.toNat / 16 % x.1.2.1.length < x.1.2.1.length:=Nat.mod_lt _ hcl
  have e6:zE ((x2.toNat / 16 % x.1.2.1.length:Nat):Int) x.1.2.1.length=true:=zG hj
  have e7:((x.1.2.1.length:Int) != 0)=true:=bne_iff_ne.2 (by omega)
  generalize hjj:x2.toNat / 16 % x.1.2.1.length=j at eb hj e6
  obtain ⟨c,hcj⟩:∃ c,(x.1.2.1.getD j (zj zi)).1=c:=⟨_,rfl⟩
  have hcl3:c.length≤20:=by rw [← hcj]; exact hx.tab.cnames _ (bc hj)
  have htl:=hx.tab.name
  have hf:=Pa (e:=w) htl hcl3
  have hfc:Gp (dL x.1.1 c w)=true:=by unfold Gp; rw [hf]; rfl
  have hfv:No (dL x.1.1 c w)=dL x.1.1 c (bg w):=by unfold No; rw [hf]; rfl
  have hie:=QZ hw
  have hsu:=AL (t:=x.1.1) (c:=c) (e:=bg w) (by omega) (by omega)
  have hss:=AK (t:=x.1.1) (e:=bg w) (by omega)
  have hsr:∀ y∈db,eR y:=fun y hy=>(hsh y hy).sh
  obtain ⟨s1,s2⟩:=Kv (b:=db) (cC d2 (by omega)) hsq
  have s2:=s2.2 rfl
  have done:∀ {n:List (Sem zh)} {a b:Sem eE},un db (dL x.1.1 c (bg w))=some (db,a,())→un db (sJ x.1.1 (bg w))=some (n,b,())→a.1=b.1→a.2.1=b.2.1→qW x0 w x2=some (true,()):=by
   intro n a b u v h h'
   obtain ⟨u1,u2⟩:=TG u
   obtain ⟨v1,v2⟩:=TG v
   have h2:(a.1==b.1)=true:=by rw [h]; exact beq_self_eq_true _
   have h3:(a.2.1==b.2.1)=true:=by rw [h']; exact beq_self_eq_true _
   refine fin (v:=yx) ?_ Hv
   simp only [i8w,Tr.val,hdb,hdc,k1,k2,oS,bR,hc,e3,ea,e2,bl,hxk,zo,e7,eb,e6,hcj,hfc,hfv,u1,u2,v1,v2,s1,s2,h2,h3,bO,Li,rN,zO,if_true,if_false]
  by_cases hB:dS db
  case neg=>exact done (sQ hsu hsr fun h=>hB h.2) (sQ hss hsr fun h=>hB h.2) rfl rfl
  have hr:=hB.rels x hxm
  obtain ⟨_,_,_,kc3,_⟩:=Em hr.may
  obtain ⟨c1,c2⟩:=Rs hr.may hj
  rw [hcj] at c1 c2
  cases hm:dl (bg w) with
  | false=>
   have m1:¬ (fx (dL x.1.1 c (bg w))=true∧dS db):=fun h=>by
    rw [H9 kc3 c1 hie,hm] at h
    cases h.1
   have m2:¬ (fx (sJ x.1.1 (bg w))=true∧dS db):=fun h=>by
    rw [H8 kc3 hie,hm] at h
    cases h.1
   exact done (sQ hsu hsr m1) (sQ hss hsr m2) rfl rfl
  | true=>
   have m1:fx (dL x.1.1 c (bg w))=true:=by rw [H9 kc3 c1 hie,hm]
   have m2:fx (sJ x.1.1 (bg w))=true:=by rw [H8 kc3 hie,hm]
   obtain ⟨i,i1,i2⟩:=NA hB hk hxk
   have u:=QI hsu hsr m1 hB rfl (FE (w:=bg w) hB hsh i1 i2 c1 c2 hj)
   have v:=QH hss hsr m2 hB rfl (FB (s:=sJ x.1.1 (bg w)) i1 i2 (cC hr.few (by omega)) (fun r h=>cC (hr.len r h) (by omega)))
   have hw1:C0 (sJ x.1.1 (bg w))=bg w:=rfl
   rw [hw1] at v
   by_cases h0:cM (bg w) x.1.2.1=0
   ·simp only [if_pos h0,if_true] at u v
    exact done u v rfl rfl
   ·simp only [if_neg h0] at u v
    exact done u v rfl rfl

section
variable {w:World} {U:Nat→Prop} {ρ:Nat→Option Value}
def Qr (w:World) (U:Nat→Prop) (ρ:Nat→Option Value) (l:List AV):Prop:=∀ (j:Nat) (c:AV),l[j]?=some c→∃ v,Rv w U ρ c v
theorem ML {n:Int} {v:Value} (h:Rv w U ρ (.int .i64 n) v):bM .i64 n:=by
 cases h with
 | int _ _ h=>exact h
theorem RV {e:Sh} {l:List (Sem e)} {v:Value} (h:Rv w U ρ (.sl e l) v):∀ x∈l,Qr w U ρ (zl e x):=by
 intro x hx
 cases h with
 | sl0=>simp at hx
 | sl _ _ _ _ _ vals hc hm hb hU hcell hr=>
  obtain ⟨i,hi,rfl⟩:=Dj hx
  exact fun j c h=>⟨_,hr i hi j c h⟩
mutual
theorem Mw:∀ (e:ze),Qr w U ρ (zl .expr e)→IE e
 | .mk op v s l,h=>by
  rw [IE]
  obtain ⟨_,h2⟩:=h 2 _ rfl
  obtain ⟨_,h5⟩:=h 5 _ rfl
  exact ⟨ML h2,HV l fun x hx=>RV h5 x hx⟩
theorem HV:∀ (l:List ze),(∀ x∈l,Qr w U ρ (zl .expr x))→sL l
 | [],_=>by rw [sL]; trivial
 | x::r,h=>by rw [sL]; exact ⟨Mw x (h x (by simp)),HV r fun y hy=>h y (by simp [hy])⟩
end
theorem Lb {cs:List AV} {v:Value} (h:Rv w U ρ (.agg cs) v):Qr w U ρ cs:=by
 cases h with
 | agg _ vs hl _ hr=>
  intro j c hj
  have hlt:j < vs.length:=by rw [← hl]; exact (bG.1 hj).1
  exact ⟨vs[j],hr j c _ hj (zI hlt)⟩
end
theorem O9 {W:World} {n:Int} {v:Value} (h:Rv W U0 fQ (.int .u16 n) v):0≤n∧n≤65535:=by
 cases h with
 | int _ _ h=>exact h
theorem OT (x:zw ([.sl zh,.expr,.int .u16].map some)) {W:World} {vs:List Value} (hr:cr W U0 fQ (f6 ([.sl zh,.expr,.int .u16].map some) x) vs):(F8w (f6 ([.sl zh,.expr,.int .u16].map some) x) (fun _=>.dead) 0).val=some { val:=.bool true }:=by
 obtain ⟨db,e,n,u⟩:=x
 have hr:cr W U0 fQ [.sl zh db,.agg (zl .expr e),.int .u16 n] vs:=hr
 have hl:=hr.len
 have at':∀ j c,([.sl zh db,.agg (zl .expr e),.int .u16 n]:List AV)[j]?=some c→∃ v,Rv W U0 fQ c v:=fun j c hj=>by
  have hlt:j < vs.length:=by rw [← hl]; exact (bG.1 hj).1
  exact ⟨vs[j],hr.rv j c _ hj (zI hlt)⟩
 obtain ⟨v1,h1⟩:=at' 1 _ rfl
 obtain ⟨v2,h2⟩:=at' 2 _ rfl
 have hn:=O9 h2
 have h:(F8w [.sl zh db,.agg (zl .expr e),.int .u16 n] (fun _=>.dead) 0).val=(Tr.chk (qW db (zB e) n).isSome (Tr.ok ({ val:=.bool ((qW db (zB e) n).getD (bT [.bool])).1 }:ej))).val:=by kernel_rfl
 show (F8w [.sl zh db,.agg (zl .expr e),.int .u16 n] (fun _=>.dead) 0).val=_
 rw [h,zo,Ns db e n (Mw e (Lb h1)) hn.1 hn.2]
 rfl
end Cad
