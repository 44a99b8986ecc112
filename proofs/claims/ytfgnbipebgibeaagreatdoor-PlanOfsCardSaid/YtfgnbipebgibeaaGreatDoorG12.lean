/- Bases: small things. Bases: few. Bases: few, and where a table is. Bases: few tables; has. Tables with rows: has. Tables with rows: has, check. Tables with rows: check; bases: bound. Bases: check. Plans: places. Plans: what is there. Plans: what is wrong with a target. Plans: sources. Plans: sources, who refers. Plans: sources, who refers. Few tables, few statements. Few bases. Plans: sources. Plans: the columns that are named. Plans: copies, groups. Plans: joins. Plans: the whole. The document's reader: letters, words. The document's values; names' places; expressions, counted, held against one another. The document's reader: parts, passing. -/
import Derived.Test.YtfgnbipebgibeaaGreatDoorG11
namespace Cad
open Go Go.Proofs
open Int (toNat)
open List (getD)
open List (length)
set_option maxHeartbeats 4000000

noncomputable def Z0:zT:=bh (List.replicate 2 none) (fF m8 Tryz.f92 (List.replicate 2 none))
theorem WI:FK 92 Z0:=cm _ iv (bN (by kernel_rfl))

abbrev zcp:Nat→aJ:=fun _=>{ }
theorem UX:zK (m8).P 22 Tryz.f22 1:=bN (by kernel_rfl)
theorem zbH (x0:TS):rn m8 0 zcp Tryz.f22 [zF Sh.str x0] []=Tr.br (decide ((↑(length x0):Int) > 20)) (Tr.chk (decide (0≤0)&&decide (0≤20)&&decide (20≤(↑(length x0):Int))) (Tr.ok (zx.ret (AV.str (List.take (toNat 20 - toNat 0) (List.drop (toNat 0) x0))) []))) (Tr.ok (zx.ret (AV.str x0) [])):=by kernel_rfl
def cJ (x0:TS):Sem Sh.str:=(if decide ((↑(length x0):Int) > 20)=true then List.take (toNat 20 - toNat 0) (List.drop (toNat 0) x0) else x0)
def eL (x0:TS):Bool:=(if decide ((↑(length x0):Int) > 20)=true then if (decide (0≤0)&&decide (0≤20)&&decide (20≤(↑(length x0):Int)))=true then true else false else true)
def Zc:zT:=zN [Sh.str] [Sh.str] (fun x=>eL x.1) fun x=>(cJ x.1,())
theorem VO:FK 22 Zc:=by
 refine au (UX) fun x hc C hC=>?_
 unfold eL at hc
 refine zr iv (UX) (fun id _=>hC id) (zbH x.1) ?_
 generalize hy:cJ x.1=y
 unfold cJ at hy
 try simp only [ze.eta]
 repeat' (first | with_reducible refine jk hy hc (fun _ hy hc=>?_) (fun _ hy hc=>?_) | with_reducible refine bF hy (fun _ hy=>?_) (fun _ hy=>?_) | with_reducible refine cQ hc (fun hc=>?_) | with_reducible refine zz ?_)
 all_goals first | (cases hc; done) | (subst hy; first | rfl)

abbrev XW:Nat→aJ:=fun _=>{ }
theorem Pp:zK (m8).P 180 Tryz.f180 3:=bN (by kernel_rfl)
theorem Xr (x0:Sem zg.sl) (x1:Sem zf) (x2:Sem zg):rn m8 0 XW Tryz.f180 [zF zg.sl x0,zF zf x1,zF zg x2] []=Tr.chk (bif decide (x1 ≥ 0) then bif decide (x1 < (↑(length x0):Int)) then zR x1 (length x0) else true else true) (Tr.ok (zx.ret (AV.bool (bif decide (x1 ≥ 0) then bif decide (x1 < (↑(length x0):Int)) then (getD x0 (toNat x1) (zi zg)).1==x2.1&&((getD x0 (toNat x1) (zi zg)).2.1==x2.2.1&&((getD x0 (toNat x1) (zi zg)).2.2==x2.2.2&&true)) else false else false)) [])):=by kernel_rfl
def de (x0:Sem zg.sl) (x1:Sem zf) (x2:Sem zg):Sem Sh.bool:=(bif decide (x1 ≥ 0) then bif decide (x1 < (↑(length x0):Int)) then (getD x0 (toNat x1) (zi zg)).1==x2.1&&((getD x0 (toNat x1) (zi zg)).2.1==x2.2.1&&((getD x0 (toNat x1) (zi zg)).2.2==x2.2.2&&true)) else false else false)
def wZ (x0:Sem zg.sl) (x1:Sem zf) (_:Sem zg):Bool:=(if (bif decide (x1 ≥ 0) then bif decide (x1 < (↑(length x0):Int)) then zR x1 (length x0) else true else true)=true then true else false)
def TK:zT:=zN [zg.sl,zf,zg] [Sh.bool] (fun x=>wZ x.1 x.2.1 x.2.2.1) fun x=>(de x.1 x.2.1 x.2.2.1,())
theorem JS:FK 180 TK:=by
 refine au (Pp) fun x hc C hC=>?_
 unfold wZ at hc
 refine zr iv (Pp) (fun id _=>hC id) (Xr x.1 x.2.1 x.2.2.1) ?_
 generalize hy:de x.1 x.2.1 x.2.2.1=y
 unfold de at hy
 try simp only [ze.eta]
 repeat' (first | with_reducible refine jk hy hc (fun _ hy hc=>?_) (fun _ hy hc=>?_) | with_reducible refine bF hy (fun _ hy=>?_) (fun _ hy=>?_) | with_reducible refine cQ hc (fun hc=>?_) | with_reducible refine zz ?_)
 all_goals first | (cases hc; done) | (subst hy; first | rfl)

abbrev UL:Nat→aJ:=fun j=>if j=2 then { slots:=[0,1,5] } else { }
abbrev AP (l0:List (Sem zj)) (s1:TS) (i5:Int):St:={ tmps:=(tm 21 [(0,AV.sl zj l0),(1,AV.str s1),(5,ai i5)]),heap:=[] }
theorem Kz:zK (m8).P 13 Tryz.f13 2:=bN (by kernel_rfl)
theorem zbE (x0:Sem zj.sl) (x1:TS):rn m8 0 UL Tryz.f13 [zF zj.sl x0,zF Sh.str x1] []=Tr.ok (zx.head 2 (zI Tryz.f13 2) (AP x0 x1 0)):=by kernel_rfl
theorem KE (l0:List (Sem zj)) (s1:TS) (i5:Int):rh m8 0 UL Tryz.f13 2 (AP l0 s1 i5)=Tr.br (decide (i5 < (↑l0.length:Int))) (Tr.chk (zR i5 l0.length) (Tr.br ((l0.getD i5.toNat (zi zj)).1.1==s1) (Tr.ok (zx.ret (ai i5) [])) (Tr.ok (zx.head 2 (zI Tryz.f13 2) (AP l0 s1 (IntKind.i64.wrap (i5+1))))))) (Tr.ok (zx.ret (ai (-1)) [])):=by kernel_rfl
def fU (s1:TS):List
 (Sem zj)→Int→Sem zf
 | [],_=>(-1)
 | x::r,i5=>(if (x.1.1==s1)=true then i5 else fU s1 r (i5+1))
theorem RL {C:dl} (hC:∀ id,C.ρ0 id=none) (s1:TS) (l0:List
 (Sem zj)) (hl:l0.length≤zA):∀ (m i:Nat),l0.length - i=m→i≤l0.length→
  Reach (m8) C 13 (zI Tryz.f13 2) (AP l0 s1 (i:Int)) (fun r h=>az h [zf] r=some (fU s1 (l0.drop i) i,())):=by
 intro m
 induction m with
 | zero=>
  intro i hm hi
  obtain rfl:i=l0.length:=by omega
  rw [ey]
  refine zr iv (Kz) (fun id _=>hC id) (KE _ _ _) ?_
  generalize hy:fU s1 [] _=y
  rw [fU] at hy
  simp only [zH,Tr.val_brF]
  repeat' (first | with_reducible refine bF hy (fun _ hy=>?_) (fun _ hy=>?_) | with_reducible refine zz ?_)
  all_goals first | (cases hc; done) | (subst hy; first | rfl)
 | succ m IH=>
  intro i hm hi
  have hlt:i < l0.length:=by omega
  have IH:=IH (i+1)
  have hcast:((i:Int)+1)=((i+1:Nat):Int):=by omega
  have hwr:=zt i (by omega)
  rw [dF hlt]
  refine zr iv (Kz) (fun id _=>hC id) (KE _ _ _) ?_
  generalize hy:fU s1 (l0[i]::l0.drop (i+1)) (i:Int)=y
  rw [fU] at hy
  simp only [zM hlt,zB hlt,bt l0 _ hlt,hwr,Tr.val_brT,Tr.val_chkT]
  clear hwr
  try simp only [zB hlt] at hy
  simp only [hcast] at hy
  repeat' (first | with_reducible refine bF hy (fun _ hy=>?_) (fun _ hy=>?_) | with_reducible refine zz ?_)
  all_goals first | (cases hc; done) | (subst hy; first | (change Reach _ _ _ _ _ _; apply IH <;> first | omega | assumption) | rfl)
theorem Nn {C:dl} (hC:∀ id,C.ρ0 id=none) (s1:TS) (l0:List
 (Sem zj)):
  Reach (m8) C 13 (zI Tryz.f13 2) (AP l0 s1 0) (fun r h=>az h [zf] r=some (fU s1 l0 0,())):=
 Reach.len 0 zj l0 rfl fun hl=>RL hC s1 l0 hl _ 0 rfl (aK _)
def mQ (x0:Sem zj.sl) (x1:TS):Sem zf:=(fU x1 x0 0)
def Y2:zT:=aD [zj.sl,Sh.str] [zf] fun x=>(mQ x.1 x.2.1,())
theorem VC:FK 13 Y2:=by
 refine zW (Kz) fun x C hC=>?_
 refine zr iv (Kz) (fun id _=>hC id) (zbE x.1 x.2.1) ?_
 generalize hy:mQ x.1 x.2.1=y
 unfold mQ at hy
 try simp only [ze.eta]
 repeat' (first | with_reducible refine bF hy (fun _ hy=>?_) (fun _ hy=>?_) | with_reducible refine zz ?_)
 all_goals first | (cases hc; done) | (subst hy; first | (change Reach _ _ _ _ _ _; apply Nn hC <;> first | assumption | exact hc) | rfl)

noncomputable def qi:=m8.addL [(92,Z0),(22,Zc),(180,TK),(13,Y2)]
theorem jC:zy qi:=iv.addL <| fc WI <| fc VO <| fc JS <| fc VC jp

theorem EZ (x:Sem (Sh.sl zg)) (c:Int) (v:Sem zg):wZ x c v=true:=by
 unfold wZ
 by_cases h1:(c:Int) ≥ 0
 ·by_cases h2:c < (length x:Int)
  ·have h3:zR c (length x)=true:=by simp [zR]; exact ⟨h1,h2⟩
   simp [zu h1,zu h2,h3]
  ·simp [zu h1,ao h2]
 ·simp [ao h1]
def TL:zT:=aD [Sh.sl zg,zf,zg] [Sh.bool] fun x=>(de x.1 x.2.1 x.2.2.1,())
theorem Rr:FK 180 TL:=fq JS fun x=>EZ x.1 x.2.1 x.2.2.1

abbrev UN:Nat→aJ:=fun j=>if j=3 then { slots:=[0,3,4],prom:=[(3,none,.str)] } else { }
abbrev AQ (l0:LS) (i4:Int) (lh_0:LS):St:={ tmps:=(tm 24 [(0,AV.sl Sh.str l0),(3,AV.vec 0),(4,ai i4)]),heap:=[AO.vec Sh.str lh_0] }
theorem KA:zK (qi).P 23 Tryz.f23 1:=bN (by kernel_rfl)
theorem zbI (x0:Sem Sh.str.sl):rn qi 0 UN Tryz.f23 [zF Sh.str.sl x0] []=Tr.ok (zx.head 3 (zI Tryz.f23 3) (AQ x0 0 [])):=by kernel_rfl
theorem KF (l0:LS) (i4:Int) (lh_0:LS):rh qi 0 UN Tryz.f23 3 (AQ l0 i4 lh_0)=Tr.br (bif decide (i4 < (↑l0.length:Int)) then decide (i4 < 10) else false) (Tr.chk (zR i4 l0.length) (Tr.chk (eL (l0.getD i4.toNat (zi Sh.str))) (Tr.chk (decide (lh_0.length+[cJ (l0.getD i4.toNat (zi Sh.str))].length≤1073741824)) (Tr.ok (zx.head 3 (zI Tryz.f23 3) (AQ l0 (IntKind.i64.wrap (i4+1)) (lh_0++[cJ (l0.getD i4.toNat (zi Sh.str))]))))))) (Tr.ok (zx.ret (AV.vec 0) [AO.vec Sh.str lh_0])):=by kernel_rfl
def dW:List (Sem Sh.str)→Int→List (Sem Sh.str)→Sem Sh.str.sl
 | [],_,lh_0=>(lh_0)
 | x::r,i4,lh_0=>(if decide (i4 < 10)=true then dW r (i4+1) (lh_0++[cJ x]) else lh_0)
def fg:List (Sem Sh.str)→Int→List (Sem Sh.str)→Bool
 | [],_,_=>(true)
 | x::r,i4,lh_0=>(if decide (i4 < 10)=true then
 if eL x=true then if decide (lh_0.length+[cJ x].length≤1073741824)=true then fg r (i4+1) (lh_0++[cJ x]) else false else false
else true)
theorem RM {C:dl} (hC:∀ id,C.ρ0 id=none) (l0:LS) (hl:l0.length≤zA):∀ (m i:Nat) (lh_0:LS),l0.length - i=m→i≤l0.length→fg (l0.drop i) i lh_0=true→
  Reach (qi) C 23 (zI Tryz.f23 3) (AQ l0 (i:Int) lh_0) (fun r h=>az h [Sh.str.sl] r=some (dW (l0.drop i) i lh_0,())):=by
 intro m
 induction m with
 | zero=>
  intro i lh_0 hm hi hc
  obtain rfl:i=l0.length:=by omega
  rw [ey] at hc ⊢
  refine zr jC (KA) (fun id _=>hC id) (KF _ _ _) ?_
  rw [fg] at hc
  generalize hy:dW [] _ lh_0=y
  rw [dW] at hy
  simp only [zH,aq,Tr.val_brF]
  repeat' (first | with_reducible refine jk hy hc (fun _ hy hc=>?_) (fun _ hy hc=>?_) | with_reducible refine bF hy (fun _ hy=>?_) (fun _ hy=>?_) | with_reducible refine cQ hc (fun hc=>?_) | with_reducible refine zz ?_)
  all_goals first | (cases hc; done) | (subst hy; first | rfl)
 | succ m IH=>
  intro i lh_0 hm hi hc
  have hlt:i < l0.length:=by omega
  have IH:=IH (i+1)
  have hcast:((i:Int)+1)=((i+1:Nat):Int):=by omega
  have hwr:=zt i (by omega)
  rw [dF hlt] at hc ⊢
  refine zr jC (KA) (fun id _=>hC id) (KF _ _ _) ?_
  rw [fg] at hc
  generalize hy:dW (l0[i]::l0.drop (i+1)) (i:Int) lh_0=y
  rw [dW] at hy
  simp only [zM hlt,zB hlt,bt l0 _ hlt,hwr,zU]
  clear hwr
  try simp only [zB hlt] at hy
  simp only [hcast] at hy
  try simp only [zB hlt] at hc
  try simp only [hcast] at hc
  repeat' (first | with_reducible refine jk hy hc (fun _ hy hc=>?_) (fun _ hy hc=>?_) | with_reducible refine bF hy (fun _ hy=>?_) (fun _ hy=>?_) | with_reducible refine cQ hc (fun hc=>?_) | with_reducible refine zz ?_)
  all_goals first | (cases hc; done) | (subst hy; first | (change Reach _ _ _ _ _ _; apply IH <;> first | omega | assumption) | rfl)
theorem Np {C:dl} (hC:∀ id,C.ρ0 id=none) (l0:LS) (lh_0:LS) (hc:fg l0 0 lh_0=true):
  Reach (qi) C 23 (zI Tryz.f23 3) (AQ l0 0 lh_0) (fun r h=>az h [Sh.str.sl] r=some (dW l0 0 lh_0,())):=
 Reach.len 0 (Sh.str) l0 rfl fun hl=>RM hC l0 hl _ 0 lh_0 rfl (aK _) hc
def jq (x0:Sem Sh.str.sl):Sem Sh.str.sl:=(dW x0 0 [])
def nV (x0:Sem Sh.str.sl):Bool:=(fg x0 0 [])
def Ze:zT:=zN [Sh.str.sl] [Sh.str.sl] (fun x=>nV x.1) fun x=>(jq x.1,())
theorem VQ:FK 23 Ze:=by
 refine au (KA) fun x hc C hC=>?_
 unfold nV at hc
 refine zr jC (KA) (fun id _=>hC id) (zbI x.1) ?_
 generalize hy:jq x.1=y
 unfold jq at hy
 try simp only [ze.eta]
 repeat' (first | with_reducible refine jk hy hc (fun _ hy hc=>?_) (fun _ hy hc=>?_) | with_reducible refine bF hy (fun _ hy=>?_) (fun _ hy=>?_) | with_reducible refine cQ hc (fun hc=>?_) | with_reducible refine zz ?_)
 all_goals first | (cases hc; done) | (subst hy; first | (change Reach _ _ _ _ _ _; apply Np hC <;> first | assumption | exact hc) | rfl)

abbrev w9 (s:zw) (l:List (Sem zj)) (i:Int):St:={ tmps:=[.sl zj l,.clo (.func 92) [] [.ptr 0 0],.any,.any,.any,.any,.any,.int .i64 l.length,.int .i64 i,.any,.any,.any,.any,.any,.any,.any,.any,.any,.any],heap:=[.box [.str s]] }
theorem Oh (s:zw) (l:List (Sem zj)):run qi 1 BF Tryz.f91.results.toList 300 (bv Tryz.f91) (bc Tryz.f91.ntmps [.sl zj l,.clo (.func 92) [] [.ptr 0 0]] [.box [.str s]])=.ok (.head 2 (zI Tryz.f91 2) (w9 s l 0)):=by kernel_rfl
theorem PF (s:zw) (l:List (Sem zj)) (i:Int):run qi 1 BF Tryz.f91.results.toList 300 (zI Tryz.f91 2) (w9 s l i)=nU (K:=zI Tryz.f91 2) (e:=zj) l (fun x=>x.1.1==s) (w9 s l) [.box [.str s]] i:=by kernel_rfl

theorem Pv:zK qi.P 91 Tryz.f91 2:=bN (by kernel_rfl)
def zbe:ie [some (.sl zj),none]:=fun x h=>match x,h with
 | (l,.clo (.func 92) [] [.ptr 0 0],_),[.box [.str s]]=>.ok (.int .i64 (aj (fun x=>x.1.1==s) l 0),[.box [.str s]])
 | _,_=>.err
def ZZ:zT:=bh [some (.sl zj),none] zbe
theorem WH:FK 91 ZZ:=by
 refine dD Pv fun x h0 res hx C hC=>?_
 unfold zbe at hx
 split at hx
 ·rename_i l u s
  simp only [Tr.val_ok,bz] at hx
  subst hx
  refine Reach.len 0 zj l rfl fun hl=>?_
  refine zr (n0:=1) jC Pv hC (Oh s l) ?_
  exact lU l (fun x=>x.1.1==s) (w9 s l) jC Pv hC (PF s l) hl _ 0 rfl (aK _)
 ·simp at hx

noncomputable def Gq:=qi.addL [(180,TL),(23,Ze),(91,ZZ)]
theorem ut:zy Gq:=jC.addL <| fc Rr <| fc VQ <| fc WH jp

noncomputable def TJ:zT:=bh (List.replicate 3 none) (fF Gq Tryz.f179 (List.replicate 3 none))
theorem Rq:FK 179 TJ:=cm _ ut (bN (by kernel_rfl))

abbrev zcC:Nat→aJ:=fun _=>{ }
theorem U2:zK (Gq).P 51 Tryz.f51 2:=bN (by kernel_rfl)
theorem zbR (x0:Sem zj.sl) (x1:TS):rn Gq 0 zcC Tryz.f51 [zF zj.sl x0,zF Sh.str x1] []=Tr.ok (zx.ret (ai (aj (fun x=>x.1.1==x1) x0 0)) []):=by kernel_rfl
def zZ (x0:Sem zj.sl) (x1:TS):Sem zf:=(aj (fun x=>x.1.1==x1) x0 0)
def Zz:zT:=aD [zj.sl,Sh.str] [zf] fun x=>(zZ x.1 x.2.1,())
theorem Wf:FK 51 Zz:=by
 refine zW (U2) fun x C hC=>?_
 refine zr ut (U2) (fun id _=>hC id) (zbR x.1 x.2.1) ?_
 generalize hy:zZ x.1 x.2.1=y
 unfold zZ at hy
 try simp only [ze.eta]
 repeat' (first | with_reducible refine bF hy (fun _ hy=>?_) (fun _ hy=>?_) | with_reducible refine zz ?_)
 all_goals first | (cases hc; done) | (subst hy; first | rfl)

noncomputable def Gr:=Gq.addL [(179,TJ),(51,Zz)]
theorem uu:zy Gr:=ut.addL <| fc Rq <| fc Wf jp

abbrev pO (c a b:Int) (s:zw) (l:List (Sem (Sh.sl zg))) (i:Int):St:={ tmps:=[.sl (Sh.sl zg) l,.clo (.func 179) [] [.ptr 0 0,.ptr 1 0],.any,.any,.any,.any,.any,.int .i64 l.length,.int .i64 i,.any,.any,.any,.any,.any,.any,.any,.any,.any,.any],heap:=[.box [.int .i64 c],.box [.int .i64 a,.int .i64 b,.str s]] }
theorem IG (c a b:Int) (s:zw) (l:List (Sem (Sh.sl zg))):run Gr 2 BF Tryz.f223.results.toList 300 (bv Tryz.f223) (bc Tryz.f223.ntmps [.sl (Sh.sl zg) l,.clo (.func 179) [] [.ptr 0 0,.ptr 1 0]] [.box [.int .i64 c],.box [.int .i64 a,.int .i64 b,.str s]])=.ok (.head 2 (zI Tryz.f223 2) (pO c a b s l 0)):=by kernel_rfl
theorem I3 (c a b:Int) (s:zw) (l:List (Sem (Sh.sl zg))) (i:Int):run Gr 2 BF Tryz.f223.results.toList 300 (zI Tryz.f223 2) (pO c a b s l i)=nU (K:=zI Tryz.f223 2) (e:=(Sh.sl zg)) l (fun x=>de x c (a,b,s)) (pO c a b s l) [.box [.int .i64 c],.box [.int .i64 a,.int .i64 b,.str s]] i:=by kernel_rfl

theorem I1:zK Gr.P 223 Tryz.f223 2:=bN (by kernel_rfl)
def T3:ie [some (.sl (Sh.sl zg)),none]:=fun x h=>match x,h with
 | (l,.clo (.func 179) [] [.ptr 0 0,.ptr 1 0],_),[.box [.int .i64 c],.box [.int .i64 a,.int .i64 b,.str s]]=>.ok (.int .i64 (aj (fun x=>de x c (a,b,s)) l 0),[.box [.int .i64 c],.box [.int .i64 a,.int .i64 b,.str s]])
 | _,_=>.err
def TP:zT:=bh [some (.sl (Sh.sl zg)),none] T3
theorem Rw:FK 223 TP:=by
 refine dD I1 fun x h0 res hx C hC=>?_
 unfold T3 at hx
 split at hx
 ·rename_i l u c a b s
  simp only [Tr.val_ok,bz] at hx
  subst hx
  refine Reach.len 0 (Sh.sl zg) l rfl fun hl=>?_
  refine zr (n0:=2) uu I1 hC (IG c a b s l) ?_
  exact lU l (fun x=>de x c (a,b,s)) (pO c a b s l) uu I1 hC (I3 c a b s l) hl _ 0 rfl (aK _)
 ·simp at hx

noncomputable def N3:=Gr.add 223 TP
theorem Cm:zy N3:=uu.add Rw

noncomputable def TI:zT:=bh (List.replicate 2 none) (fF N3 Tryz.f178 (List.replicate 2 none))
theorem Rp:FK 178 TI:=cm _ Cm (bN (by kernel_rfl))

noncomputable def Kd:=N3.add 178 TI
theorem uv:zy Kd:=Cm.add Rp
noncomputable section

abbrev XO:Nat→aJ:=fun _=>{ }
theorem Pm:zK (Kd).P 124 Tryz.f124 3:=bN (by kernel_rfl)
theorem Xm (x0:Sem zj) (x1:Sem zf) (x2:Sem zg):rn Kd 0 XO Tryz.f124 [zF zj x0,zF zf x1,zF zg x2] []=Tr.ok (zx.ret (AV.bool (decide (aj (fun x=>de x x1 x2) x0.2 0 ≥ 0))) []):=by kernel_rfl
def gp (x0:Sem zj) (x1:Sem zf) (x2:Sem zg):Sem Sh.bool:=(decide (aj (fun x=>de x x1 x2) x0.2 0 ≥ 0))
def Tl:zT:=aD [zj,zf,zg] [Sh.bool] fun x=>(gp x.1 x.2.1 x.2.2.1,())
theorem Q2:FK 124 Tl:=by
 refine zW (Pm) fun x C hC=>?_
 refine zr uv (Pm) (fun id _=>hC id) (Xm x.1 x.2.1 x.2.2.1) ?_
 generalize hy:gp x.1 x.2.1 x.2.2.1=y
 unfold gp at hy
 try simp only [ze.eta]
 repeat' (first | with_reducible refine bF hy (fun _ hy=>?_) (fun _ hy=>?_) | with_reducible refine zz ?_)
 all_goals first | (cases hc; done) | (subst hy; first | rfl)

abbrev XN:=qm [(3,[1,5,11,12,13])]
inductive BS where
 | h3 (i1:Sem zf) (l11:List (Sem zg.sl)) (i12:Int) (i13:Int) (mh_0:List ((Int×Int×zw)×Int))
abbrev zbq:BS→Nat×St
 | .h3 i1 l11 i12 i13 mh_0=>(3,⟨tm 37 [(1,ai i1),(5,AV.mp 0),(11,AV.sl zg.sl l11),(12,ai i12),(13,ai i13)],[AO.vmap false mh_0]⟩)
def Uw (x0:Sem zj) (x1:Sem zf):Tr (BS ⊕ aF):=Tr.to (BS.h3 x1 x0.2 (↑(length x0.2):Int) 0 [])
def wd:BS→Tr (BS ⊕ aF)
 | .h3 i1 l11 i12 i13 mh_0=>
  let a0:=l11.getD i13.toNat (zi zg.sl)
  let a1:=getD a0 (toNat i1) (zi zg)
  let a2:=(↑(ko mh_0 a1):Int)
  let a3:=iY mh_0 a1
  let a4:=jg a3 a2.toNat (IntKind.i64.wrap (fM mh_0 a1+1))
  let a5:=fM a4 a1
  Tr.br (decide (i13 < i12))
  (Tr.chk (zR i13 l11.length)
   (Tr.chk (zR i1 (length a0)) (Tr.chk (decide (mh_0.length≤1073741824)) (Tr.chk (zR a2 a3.length) (Tr.br (bif a1.1 != 0 then decide (a5 > 1) else false) (Tr.re (AV.kb true) []) (Tr.to (BS.h3 i1 l11 i12 (IntKind.i64.wrap (i13+1)) a4)))))))
  (Tr.re (AV.kb false) [])
def w7 (x0:Sem zj) (x1:Sem zf):=aA [Sh.bool] wd 100000000 (Uw x0 x1)
def pI (x0:Sem zj) (x1:Sem zf):=(w7 x0 x1).isSome
def uW (x0:Sem zj) (x1:Sem zf):=o1 (w7 x0 x1)
def Tk:=FT [zj,zf] [Sh.bool] fun x=>w7 x.1 x.2.1
theorem Q1:FK 122 Tk:=uv.T1 (f:=Tryz.f122) (keep:=XN) (e:=zbq)

def Ue:=Kd.addL [(124,Tl),(122,Tk)]
theorem uw:zy Ue:=uv.addL <| fc Q2 <| fc Q1 jp
end
noncomputable section

abbrev zcL:=qm [(6,[1,18,19,20]),(15,[1,39,40,41]),(21,[1,8])]
inductive Bt where
 | h6 (l18:List (Sem zg.sl)) (i19:Int) (i20:Int) (z0:zo [CP.d zj])
 | h15 (l39:LI) (i40:Int) (i41:Int) (z0:zo [CP.d zj])
 | h21 (i8:Int) (z0:zo [CP.d zj])
abbrev zeX:Bt→Nat×St
 | .h6 l18 i19 i20 z0=>(6,⟨tm 79 [(1,AV.ptr 0 0),(18,AV.sl zg.sl l18),(19,ai i19),(20,ai i20)],[AO.box (ch [] [CP.d zj] z0)]⟩)
 | .h15 l39 i40 i41 z0=>(15,⟨tm 79 [(1,AV.ptr 0 0),(39,AV.sl zf l39),(40,ai i40),(41,ai i41)],[AO.box (ch [] [CP.d zj] z0)]⟩)
 | .h21 i8 z0=>(21,⟨tm 79 [(1,AV.ptr 0 0),(8,ai i8)],[AO.box (ch [] [CP.d zj] z0)]⟩)
def Me (x0:Sem zj):Tr (Bt ⊕ aF):=Tr.br (!eD (x0.1.1,x0.1.2.1,x0.1.2.2.1,x0.1.2.2.2.1,x0.1.2.2.2.2.1,zm x0.1.2.2.2.2.2)) (Tr.re (ai 1) []) (Tr.br (decide ((↑(length x0.2):Int) > 200)) (Tr.re (ai 13) []) (Tr.to (Bt.h6 x0.2 (↑(length x0.2):Int) 0 (x0,()))))
def gD:Bt→Tr (Bt ⊕ aF)
 | .h6 l18 i19 i20 z0=>
  let a0:=(z0.1.1.1,z0.1.1.2.1,z0.1.1.2.2.1,z0.1.1.2.2.2.1,z0.1.1.2.2.2.2.1,zm z0.1.1.2.2.2.2.2)
  let a1:=eC a0 (l18.getD i20.toNat (zi zg.sl))
  let a2:=(a0,z0.1.2)
  Tr.br (decide (i20 < i19))
  (Tr.chk (zR i20 l18.length) (Tr.br (a1 != 0) (Tr.re (ai a1) []) (Tr.to (Bt.h6 l18 i19 (IntKind.i64.wrap (i20+1)) z0))))
  (Tr.chk (pI a2 z0.1.1.2.2.1)
   (Tr.br (uW a2 z0.1.1.2.2.1) (Tr.re (ai 7) []) (Tr.to (Bt.h15 z0.1.1.2.2.2.1 (↑(length z0.1.1.2.2.2.1):Int) 0 z0))))
 | .h15 l39 i40 i41 z0=>
  let a0:=((z0.1.1.1,z0.1.1.2.1,z0.1.1.2.2.1,z0.1.1.2.2.2.1,z0.1.1.2.2.2.2.1,zm z0.1.1.2.2.2.2.2),z0.1.2)
  let a1:=l39.getD i41.toNat (zi zf)
  Tr.br (decide (i41 < i40))
  (Tr.chk (zR i41 l39.length)
   (Tr.chk (pI a0 a1) (Tr.br (uW a0 a1) (Tr.re (ai 7) []) (Tr.to (Bt.h15 l39 i40 (IntKind.i64.wrap (i41+1)) z0)))))
  (Tr.to (Bt.h21 1 z0))
 | .h21 i8 z0=>
  let a0:=(↑(length z0.1.2):Int)
  let a1:=IntKind.i64.wrap (i8 - 1)
  let a2:=getD z0.1.2 a1.toNat (zi zg.sl)
  let a3:=getD z0.1.2 i8.toNat (zi zg.sl)
  let a4:=dq (getD a2 (toNat z0.1.1.2.2.1) (zi zg)) (getD a3 (toNat z0.1.1.2.2.1) (zi zg))
  Tr.br (decide (i8 < a0))
  (Tr.chk (zR a1 (length z0.1.2))
   (Tr.chk (zR z0.1.1.2.2.1 (length a2)) (Tr.chk (zR i8 (length z0.1.2)) (Tr.chk (zR z0.1.1.2.2.1 (length a3)) (Tr.br (decide (a4 ≥ 0)) (Tr.re (ai 15) []) (Tr.to (Bt.h21 (IntKind.i64.wrap (i8+1)) z0)))))))
  (Tr.re (ai 0) [])
def mR (x0:Sem zj):=aA [zf] gD 100000000 (Me x0)
def EY (x0:Sem zj):=(mR x0).isSome
def Js (x0:Sem zj):=o1 (mR x0)
def ZK:=FT [zj] [zf] fun x=>mR x.1
theorem Ws:FK 71 ZK:=uw.T1 (f:=Tryz.f71) (keep:=zcL) (e:=zeX)

abbrev zcM:=qm [(2,[0,11,12,13]),(5,[0,4,11,12,13,19,20,21]),(11,[0,4,6,7,11,12,13,19,20,21,32,33,34])]
inductive Bu where
 | h2 (l0:List (Sem zj)) (l11:List (Sem zj)) (i12:Int) (i13:Int)
 | h5 (l0:List (Sem zj)) (l11:List (Sem zj)) (i12:Int) (i13:Int) (l19:LF) (i20:Int) (i21:Int) (z0:zo [CP.d zj])
 | h11 (l0:List (Sem zj)) (i7:Sem zf) (l11:List (Sem zj)) (i12:Int) (i13:Int) (l19:LF) (i20:Int) (i21:Int) (l32:List (Sem zg.sl)) (i33:Int) (i34:Int) (z0:zo [CP.d zj]) (z1:zo [CP.d zq])
abbrev zeY:Bu→Nat×St
 | .h2 l0 l11 i12 i13=>(2,⟨tm 64 [(0,AV.sl zj l0),(11,AV.sl zj l11),(12,ai i12),(13,ai i13)],[]⟩)
 | .h5 l0 l11 i12 i13 l19 i20 i21 z0=>(5,⟨tm 64 [(0,AV.sl zj l0),(4,AV.ptr 0 0),(11,AV.sl zj l11),(12,ai i12),(13,ai i13),(19,AV.sl zq l19),(20,ai i20),(21,ai i21)],[AO.box (ch [] [CP.d zj] z0)]⟩)
 | .h11 l0 i7 l11 i12 i13 l19 i20 i21 l32 i33 i34 z0 z1=>(11,⟨tm 64 [(0,AV.sl zj l0),(4,AV.ptr 0 0),(6,AV.ptr 1 0),(7,ai i7),(11,AV.sl zj l11),(12,ai i12),(13,ai i13),(19,AV.sl zq l19),(20,ai i20),(21,ai i21),(32,AV.sl zg.sl l32),(33,ai i33),(34,ai i34)],[AO.box (ch [] [CP.d zj] z0),AO.box (ch [] [CP.d zq] z1)]⟩)
def zce (x0:Sem zj.sl):Tr (Bu ⊕ aF):=Tr.to (Bu.h2 x0 x0 (↑(length x0):Int) 0)
def fW:Bu→Tr (Bu ⊕ aF)
 | .h2 l0 l11 i12 i13=>
  let a0:=l11.getD i13.toNat (zi zj)
  Tr.br (decide (i13 < i12))
  (Tr.chk (zR i13 l11.length) (Tr.to (Bu.h5 l0 l11 i12 i13 a0.1.2.2.2.2.1 (↑(length a0.1.2.2.2.2.1):Int) 0 (a0,()))))
  (Tr.re (AV.kb true) [])
 | .h5 l0 l11 i12 i13 l19 i20 i21 z0=>
  let a0:=l19.getD i21.toNat (zi zq)
  let a1:=zZ l0 a0.2
  Tr.br (decide (i21 < i20))
  (Tr.chk (zR i21 l19.length)
   (Tr.br (decide (a1 < 0)) (Tr.re (AV.kb false) []) (Tr.to (Bu.h11 l0 a1 l11 i12 i13 l19 i20 i21 z0.1.2 (↑(length z0.1.2):Int) 0 z0 (a0,())))))
  (Tr.to (Bu.h2 l0 l11 i12 (IntKind.i64.wrap (i13+1))))
 | .h11 l0 i7 l11 i12 i13 l19 i20 i21 l32 i33 i34 z0 z1=>
  let a0:=l32.getD i34.toNat (zi zg.sl)
  let a1:=getD a0 (toNat z1.1.1) (zi zg)
  let a2:=a1.1 != 0
  let a3:=l0.getD (toNat i7) (zi zj)
  Tr.br (decide (i34 < i33))
  (Tr.chk (zR i34 l32.length)
   (Tr.chk (zR z1.1.1 (length a0)) (Tr.chk (bif a2 then zR i7 l0.length&&zR i7 l0.length else true) (Tr.br (bif a2 then !gp ((a3.1.1,a3.1.2.1,a3.1.2.2.1,a3.1.2.2.2.1,a3.1.2.2.2.2.1,zm a3.1.2.2.2.2.2),a3.2) a3.1.2.2.1 a1 else false) (Tr.re (AV.kb false) []) (Tr.to (Bu.h11 l0 i7 l11 i12 i13 l19 i20 i21 l32 i33 (IntKind.i64.wrap (i34+1)) z0 z1))))))
  (Tr.to (Bu.h5 l0 l11 i12 i13 l19 i20 (IntKind.i64.wrap (i21+1)) z0))
def wu (x0:Sem zj.sl):=aA [Sh.bool] fW 100000000 (zce x0)
def DH (x0:Sem zj.sl):=(wu x0).isSome
def Ie (x0:Sem zj.sl):=o1 (wu x0)
def ZL:=FT [zj.sl] [Sh.bool] fun x=>wu x.1
theorem Wt:FK 72 ZL:=uw.T1 (f:=Tryz.f72) (keep:=zcM) (e:=zeY)

def Uf:=Ue.addL [(71,ZK),(72,ZL)]
theorem Co:zy Uf:=uw.addL <| fc Ws <| fc Wt jp
end
noncomputable section

abbrev zct:=qm [(4,[0,3]),(9,[0,30,31,32])]
inductive FI where
 | h4 (l0:List (Sem zj)) (i3:Int)
 | h9 (l0:List (Sem zj)) (l30:List (Sem zj)) (i31:Int) (i32:Int)
abbrev zeN:FI→Nat×St
 | .h4 l0 i3=>(4,⟨tm 45 [(0,AV.sl zj l0),(3,ai i3)],[]⟩)
 | .h9 l0 l30 i31 i32=>(9,⟨tm 45 [(0,AV.sl zj l0),(30,AV.sl zj l30),(31,ai i31),(32,ai i32)],[]⟩)
def Sc (x0:Sem zj.sl):Tr (FI ⊕ aF):=Tr.br (decide ((↑(length x0):Int) > 12)) (Tr.re (ai 13) []) (Tr.to (FI.h4 x0 1))
def mT:FI→Tr (FI ⊕ aF)
 | .h4 l0 i3=>
  let a0:=IntKind.i64.wrap (i3 - 1)
  let a1:=l0.getD a0.toNat (zi zj)
  let a2:=l0.getD i3.toNat (zi zj)
  Tr.br (decide (i3 < (↑l0.length:Int)))
  (Tr.chk (zR a0 l0.length)
   (Tr.chk (zR i3 l0.length) (Tr.br (!Op.bytesLess a1.1.1 a2.1.1) (Tr.re (ai 15) []) (Tr.to (FI.h4 l0 (IntKind.i64.wrap (i3+1)))))))
  (Tr.to (FI.h9 l0 l0 (↑l0.length:Int) 0))
 | .h9 l0 l30 i31 i32=>
  let a0:=l30.getD i32.toNat (zi zj)
  let a1:=((a0.1.1,a0.1.2.1,a0.1.2.2.1,a0.1.2.2.2.1,a0.1.2.2.2.2.1,zm a0.1.2.2.2.2.2),a0.2)
  let a2:=Js a1
  Tr.br (decide (i32 < i31))
  (Tr.chk (zR i32 l30.length)
   (Tr.chk (EY a1) (Tr.br (a2 != 0) (Tr.re (ai a2) []) (Tr.to (FI.h9 l0 l30 i31 (IntKind.i64.wrap (i32+1)))))))
  (Tr.chk (DH l0) (Tr.br (!Ie l0) (Tr.re (ai 10) []) (Tr.re (ai 0) [])))
def rV (x0:Sem zj.sl):=aA [zf] mT 100000000 (Sc x0)
def mo (x0:Sem zj.sl):=(rV x0).isSome
def jP (x0:Sem zj.sl):=o1 (rV x0)
def Zm:=FT [zj.sl] [zf] fun x=>rV x.1
theorem V0:FK 34 Zm:=Co.T1 (f:=Tryz.f34) (keep:=zct) (e:=zeN)

def gv:=Uf.add 34 Zm
theorem dr:zy gv:=Co.add V0
end
abbrev aB:Sh:=.pr .str (.pr .str (.pr .str (.pr zl (.pr (.sl zf) zf))))
abbrev aX:List CP:=[.d (.sl zj),.d zk,.d zl,.d zl,.d .str,.d .str,.d .str,.d .str,.nil,.d zf,.nil,.nil,.d .expr,.nil,.d zf]
abbrev af:List CP:=[.d (.sl zj),.d zk,.d zl,.d zl,.d .str,.d .str,.d .str,.d .str,.vec zh,.d zf,.nil,.nil,.d .expr,.d (.sl zf),.d zf]

abbrev UR:Nat→aJ:=fun j=>if j=2 then { slots:=[0,1,7,8] } else { }
abbrev AS (l0:LI) (i1:Sem zf) (i7:Int) (i8:Int):St:={ tmps:=(tm 19 [(0,AV.sl zf l0),(1,ai i1),(7,ai i7),(8,ai i8)]),heap:=[] }
theorem KB:zK (gv).P 67 Tryz.f67 2:=bN (by kernel_rfl)
theorem zbW (x0:Sem zf.sl) (x1:Sem zf):rn gv 0 UR Tryz.f67 [zF zf.sl x0,zF zf x1] []=Tr.ok (zx.head 2 (zI Tryz.f67 2) (AS x0 x1 (↑(length x0):Int) 0)):=by kernel_rfl
theorem KI (l0:LI) (i1:Sem zf) (i7:Int) (i8:Int):rh gv 0 UR Tryz.f67 2 (AS l0 i1 i7 i8)=Tr.br (decide (i8 < i7)) (Tr.chk (zR i8 l0.length) (Tr.br (i1==l0.getD i8.toNat (zi zf)) (Tr.ok (zx.ret (ai i8) [])) (Tr.ok (zx.head 2 (zI Tryz.f67 2) (AS l0 i1 i7 (IntKind.i64.wrap (i8+1))))))) (Tr.ok (zx.ret (ai (-1)) [])):=by kernel_rfl
def ed (i1:Sem zf):List (Sem zf)→Int→Sem zf
 | [],_=>(-1)
 | x::r,i8=>(if (i1==x)=true then i8 else ed i1 r (i8+1))
theorem RO {C:dl} (hC:∀ id,C.ρ0 id=none) (i1:Sem zf) (l0:LI) (hl:l0.length≤zA):∀ (m i:Nat),l0.length - i=m→i≤l0.length→
  Reach (gv) C 67 (zI Tryz.f67 2) (AS l0 i1 (l0.length:Int) (i:Int)) (fun r h=>az h [zf] r=some (ed i1 (l0.drop i) i,())):=by
 intro m
 induction m with
 | zero=>
  intro i hm hi
  obtain rfl:i=l0.length:=by omega
  rw [ey]
  refine zr dr (KB) (fun id _=>hC id) (KI _ _ _ _) ?_
  generalize hy:ed i1 [] _=y
  rw [ed] at hy
  simp only [zH,Tr.val_brF]
  repeat' (first | with_reducible refine bF hy (fun _ hy=>?_) (fun _ hy=>?_) | with_reducible refine zz ?_)
  all_goals first | (cases hc; done) | (subst hy; first | rfl)
 | succ m IH=>
  intro i hm hi
  have hlt:i < l0.length:=by omega
  have IH:=IH (i+1)
  have hcast:((i:Int)+1)=((i+1:Nat):Int):=by omega
  have hwr:=zt i (by omega)
  rw [dF hlt]
  refine zr dr (KB) (fun id _=>hC id) (KI _ _ _ _) ?_
  generalize hy:ed i1 (l0[i]::l0.drop (i+1)) (i:Int)=y
  rw [ed] at hy
  simp only [zM hlt,zB hlt,bt l0 _ hlt,hwr,Tr.val_brT,Tr.val_chkT]
  clear hwr
  try simp only [zB hlt] at hy
  simp only [hcast] at hy
  repeat' (first | with_reducible refine bF hy (fun _ hy=>?_) (fun _ hy=>?_) | with_reducible refine zz ?_)
  all_goals first | (cases hc; done) | (subst hy; first | (change Reach _ _ _ _ _ _; apply IH <;> first | omega | assumption) | rfl)
theorem Nr {C:dl} (hC:∀ id,C.ρ0 id=none) (i1:Sem zf) (l0:LI):
  Reach (gv) C 67 (zI Tryz.f67 2) (AS l0 i1 (l0.length:Int) 0) (fun r h=>az h [zf] r=some (ed i1 l0 0,())):=
 Reach.len 0 (Sh.int IntKind.i64) l0 rfl fun hl=>RO hC i1 l0 hl _ 0 rfl (aK _)
def gw (x0:Sem zf.sl) (x1:Sem zf):Sem zf:=(ed x1 x0 0)
def ZI:zT:=aD [zf.sl,zf] [zf] fun x=>(gw x.1 x.2.1,())
theorem Wq:FK 67 ZI:=by
 refine zW (KB) fun x C hC=>?_
 refine zr dr (KB) (fun id _=>hC id) (zbW x.1 x.2.1) ?_
 generalize hy:gw x.1 x.2.1=y
 unfold gw at hy
 try simp only [ze.eta]
 repeat' (first | with_reducible refine bF hy (fun _ hy=>?_) (fun _ hy=>?_) | with_reducible refine zz ?_)
 all_goals first | (cases hc; done) | (subst hy; first | (change Reach _ _ _ _ _ _; apply Nr hC <;> first | assumption | exact hc) | rfl)

abbrev US:Nat→aJ:=fun j=>if j=2 then { slots:=[0,1,7,8] } else { }
abbrev AT (l0:LS) (s1:TS) (i7:Int) (i8:Int):St:={ tmps:=(tm 19 [(0,AV.sl Sh.str l0),(1,AV.str s1),(7,ai i7),(8,ai i8)]),heap:=[] }
theorem KC:zK (gv).P 90 Tryz.f90 2:=bN (by kernel_rfl)
theorem zb0 (x0:Sem Sh.str.sl) (x1:TS):rn gv 0 US Tryz.f90 [zF Sh.str.sl x0,zF Sh.str x1] []=Tr.ok (zx.head 2 (zI Tryz.f90 2) (AT x0 x1 (↑(length x0):Int) 0)):=by kernel_rfl
theorem KJ (l0:LS) (s1:TS) (i7:Int) (i8:Int):rh gv 0 US Tryz.f90 2 (AT l0 s1 i7 i8)=Tr.br (decide (i8 < i7)) (Tr.chk (zR i8 l0.length) (Tr.br (s1==l0.getD i8.toNat (zi Sh.str)) (Tr.ok (zx.ret (ai i8) [])) (Tr.ok (zx.head 2 (zI Tryz.f90 2) (AT l0 s1 i7 (IntKind.i64.wrap (i8+1))))))) (Tr.ok (zx.ret (ai (-1)) [])):=by kernel_rfl
def gK (s1:TS):List (Sem Sh.str)→Int→Sem zf
 | [],_=>(-1)
 | x::r,i8=>(if (s1==x)=true then i8 else gK s1 r (i8+1))
theorem RP {C:dl} (hC:∀ id,C.ρ0 id=none) (s1:TS) (l0:LS) (hl:l0.length≤zA):∀ (m i:Nat),l0.length - i=m→i≤l0.length→
  Reach (gv) C 90 (zI Tryz.f90 2) (AT l0 s1 (l0.length:Int) (i:Int)) (fun r h=>az h [zf] r=some (gK s1 (l0.drop i) i,())):=by
 intro m
 induction m with
 | zero=>
  intro i hm hi
  obtain rfl:i=l0.length:=by omega
  rw [ey]
  refine zr dr (KC) (fun id _=>hC id) (KJ _ _ _ _) ?_
  generalize hy:gK s1 [] _=y
  rw [gK] at hy
  simp only [zH,Tr.val_brF]
  repeat' (first | with_reducible refine bF hy (fun _ hy=>?_) (fun _ hy=>?_) | with_reducible refine zz ?_)
  all_goals first | (cases hc; done) | (subst hy; first | rfl)
 | succ m IH=>
  intro i hm hi
  have hlt:i < l0.length:=by omega
  have IH:=IH (i+1)
  have hcast:((i:Int)+1)=((i+1:Nat):Int):=by omega
  have hwr:=zt i (by omega)
  rw [dF hlt]
  refine zr dr (KC) (fun id _=>hC id) (KJ _ _ _ _) ?_
  generalize hy:gK s1 (l0[i]::l0.drop (i+1)) (i:Int)=y
  rw [gK] at hy
  simp only [zM hlt,zB hlt,bt l0 _ hlt,hwr,Tr.val_brT,Tr.val_chkT]
  clear hwr
  try simp only [zB hlt] at hy
  simp only [hcast] at hy
  repeat' (first | with_reducible refine bF hy (fun _ hy=>?_) (fun _ hy=>?_) | with_reducible refine zz ?_)
  all_goals first | (cases hc; done) | (subst hy; first | (change Reach _ _ _ _ _ _; apply IH <;> first | omega | assumption) | rfl)
theorem Nt {C:dl} (hC:∀ id,C.ρ0 id=none) (s1:TS) (l0:LS):
  Reach (gv) C 90 (zI Tryz.f90 2) (AT l0 s1 (l0.length:Int) 0) (fun r h=>az h [zf] r=some (gK s1 l0 0,())):=
 Reach.len 0 (Sh.str) l0 rfl fun hl=>RP hC s1 l0 hl _ 0 rfl (aK _)
def GU (x0:Sem Sh.str.sl) (x1:TS):Sem zf:=(gK x1 x0 0)
def ZY:zT:=aD [Sh.str.sl,Sh.str] [zf] fun x=>(GU x.1 x.2.1,())
theorem WG:FK 90 ZY:=by
 refine zW (KC) fun x C hC=>?_
 refine zr dr (KC) (fun id _=>hC id) (zb0 x.1 x.2.1) ?_
 generalize hy:GU x.1 x.2.1=y
 unfold GU at hy
 try simp only [ze.eta]
 repeat' (first | with_reducible refine bF hy (fun _ hy=>?_) (fun _ hy=>?_) | with_reducible refine zz ?_)
 all_goals first | (cases hc; done) | (subst hy; first | (change Reach _ _ _ _ _ _; apply Nt hC <;> first | assumption | exact hc) | rfl)

abbrev OS:Nat→aJ:=fun j=>if j=2 then { slots:=[0,3,7,8] } else { }
abbrev tz (l0:LF) (i7:Int) (i8:Int) (ja0:Sem zf) (ja1:TS):St:={ tmps:=(tm 19 [(0,AV.sl zq l0),(3,AV.ptr 0 0),(7,ai i7),(8,ai i8)]),heap:=[AO.box [ai ja0,AV.str ja1]] }
theorem Eo:zK (gv).P 117 Tryz.f117 2:=bN (by kernel_rfl)
theorem Xl (x0:Sem zq.sl) (x1:Sem zq):rn gv 0 OS Tryz.f117 [zF zq.sl x0,zF zq x1] []=Tr.ok (zx.head 2 (zI Tryz.f117 2) (tz x0 (↑(length x0):Int) 0 x1.1 x1.2)):=by kernel_rfl
theorem Hb (l0:LF) (i7:Int) (i8:Int) (ja0:Sem zf) (ja1:TS):rh gv 0 OS Tryz.f117 2 (tz l0 i7 i8 ja0 ja1)=Tr.br (decide (i8 < i7)) (Tr.chk (zR i8 l0.length) (Tr.br (ja0==(l0.getD i8.toNat (zi zq)).1&&(ja1==(l0.getD i8.toNat (zi zq)).2&&true)) (Tr.ok (zx.ret (ai i8) [])) (Tr.ok (zx.head 2 (zI Tryz.f117 2) (tz l0 i7 (IntKind.i64.wrap (i8+1)) ja0 ja1))))) (Tr.ok (zx.ret (ai (-1)) [])):=by kernel_rfl
def gI (ja0:Sem zf) (ja1:TS):List (Sem zq)→Int→Sem zf
 | [],_=>(-1)
 | x::r,i8=>(if (ja0==x.1&&(ja1==x.2&&true))=true then i8 else gI ja0 ja1 r (i8+1))
theorem Nm {C:dl} (hC:∀ id,C.ρ0 id=none) (ja0:Sem zf) (ja1:TS) (l0:LF) (hl:l0.length≤zA):∀ (m i:Nat),l0.length - i=m→i≤l0.length→
  Reach (gv) C 117 (zI Tryz.f117 2) (tz l0 (l0.length:Int) (i:Int) ja0 ja1) (fun r h=>az h [zf] r=some (gI ja0 ja1 (l0.drop i) i,())):=by
 intro m
 induction m with
 | zero=>
  intro i hm hi
  obtain rfl:i=l0.length:=by omega
  rw [ey]
  refine zr dr (Eo) (fun id _=>hC id) (Hb _ _ _ _ _) ?_
  generalize hy:gI ja0 ja1 [] _=y
  rw [gI] at hy
  simp only [zH,Tr.val_brF]
  repeat' (first | with_reducible refine bF hy (fun _ hy=>?_) (fun _ hy=>?_) | with_reducible refine zz ?_)
  all_goals first | (cases hc; done) | (subst hy; first | rfl)
 | succ m IH=>
  intro i hm hi
  have hlt:i < l0.length:=by omega
  have IH:=IH (i+1)
  have hcast:((i:Int)+1)=((i+1:Nat):Int):=by omega
  have hwr:=zt i (by omega)
  rw [dF hlt]
  refine zr dr (Eo) (fun id _=>hC id) (Hb _ _ _ _ _) ?_
  generalize hy:gI ja0 ja1 (l0[i]::l0.drop (i+1)) (i:Int)=y
  rw [gI] at hy
  simp only [zM hlt,zB hlt,bt l0 _ hlt,hwr,Tr.val_brT,Tr.val_chkT]
  clear hwr
  try simp only [zB hlt] at hy
  simp only [hcast] at hy
  repeat' (first | with_reducible refine bF hy (fun _ hy=>?_) (fun _ hy=>?_) | with_reducible refine zz ?_)
  all_goals first | (cases hc; done) | (subst hy; first | (change Reach _ _ _ _ _ _; apply IH <;> first | omega | assumption) | rfl)
theorem LH {C:dl} (hC:∀ id,C.ρ0 id=none) (ja0:Sem zf) (ja1:TS) (l0:LF):
  Reach (gv) C 117 (zI Tryz.f117 2) (tz l0 (l0.length:Int) 0 ja0 ja1) (fun r h=>az h [zf] r=some (gI ja0 ja1 l0 0,())):=
 Reach.len 0 (zf.pr Sh.str) l0 rfl fun hl=>Nm hC ja0 ja1 l0 hl _ 0 rfl (aK _)
def GR (x0:Sem zq.sl) (x1:Sem zq):Sem zf:=(gI x1.1 x1.2 x0 0)
def Th:zT:=aD [zq.sl,zq] [zf] fun x=>(GR x.1 x.2.1,())
theorem QY:FK 117 Th:=by
 refine zW (Eo) fun x C hC=>?_
 refine zr dr (Eo) (fun id _=>hC id) (Xl x.1 x.2.1) ?_
 generalize hy:GR x.1 x.2.1=y
 unfold GR at hy
 try simp only [ze.eta]
 repeat' (first | with_reducible refine bF hy (fun _ hy=>?_) (fun _ hy=>?_) | with_reducible refine zz ?_)
 all_goals first | (cases hc; done) | (subst hy; first | (change Reach _ _ _ _ _ _; apply LH hC <;> first | assumption | exact hc) | rfl)

abbrev zcn:Nat→aJ:=fun _=>{ }
theorem UW:zK (gv).P 16 Tryz.f16 1:=bN (by kernel_rfl)
theorem zbG (x0:Sem aB):rn gv 0 zcn Tryz.f16 [zF aB x0] []=Tr.br (x0.2.2.1==[]) (Tr.ok (zx.ret (AV.sl Sh.str [x0.2.1]) [])) (Tr.ok (zx.ret (AV.sl Sh.str [x0.2.1,x0.2.2.1]) [])):=by kernel_rfl
def iR (x0:Sem aB):Sem Sh.str.sl:=(if (x0.2.2.1==[])=true then [x0.2.1] else [x0.2.1,x0.2.2.1])
def Y9:zT:=aD [aB] [Sh.str.sl] fun x=>(iR x.1,())
theorem VJ:FK 16 Y9:=by
 refine zW (UW) fun x C hC=>?_
 refine zr dr (UW) (fun id _=>hC id) (zbG x.1) ?_
 generalize hy:iR x.1=y
 unfold iR at hy
 try simp only [ze.eta]
 repeat' (first | with_reducible refine bF hy (fun _ hy=>?_) (fun _ hy=>?_) | with_reducible refine zz ?_)
 all_goals first | (cases hc; done) | (subst hy; first | rfl)

noncomputable def Tf:zT:=bh (List.replicate 2 none) (fF gv Tryz.f115 (List.replicate 2 none))
theorem QW:FK 115 Tf:=cm _ dr (bN (by kernel_rfl))

noncomputable def vD:=gv.addL [(67,ZI),(90,ZY),(117,Th),(16,Y9),(115,Tf)]
theorem oV:zy vD:=dr.addL <| fc Wq <| fc WG <| fc QY <| fc VJ <| fc QW jp

abbrev XM:Nat→aJ:=fun _=>{ }
theorem Pl:zK (vD).P 116 Tryz.f116 2:=bN (by kernel_rfl)
theorem Xk (x0:Sem zf.sl) (x1:Sem zf):rn vD 0 XM Tryz.f116 [zF zf.sl x0,zF zf x1] []=Tr.ok (zx.ret (AV.bool (decide (gw x0 x1 ≥ 0))) []):=by kernel_rfl
def rk (x0:Sem zf.sl) (x1:Sem zf):Sem Sh.bool:=(decide (gw x0 x1 ≥ 0))
def Tg:zT:=aD [zf.sl,zf] [Sh.bool] fun x=>(rk x.1 x.2.1,())
theorem QX:FK 116 Tg:=by
 refine zW (Pl) fun x C hC=>?_
 refine zr oV (Pl) (fun id _=>hC id) (Xk x.1 x.2.1) ?_
 generalize hy:rk x.1 x.2.1=y
 unfold rk at hy
 try simp only [ze.eta]
 repeat' (first | with_reducible refine bF hy (fun _ hy=>?_) (fun _ hy=>?_) | with_reducible refine zz ?_)
 all_goals first | (cases hc; done) | (subst hy; first | rfl)

abbrev zcB:Nat→aJ:=fun _=>{ }
theorem UZ:zK (vD).P 50 Tryz.f50 2:=bN (by kernel_rfl)
theorem zbQ (x0:Sem Sh.str.sl) (x1:TS):rn vD 0 zcB Tryz.f50 [zF Sh.str.sl x0,zF Sh.str x1] []=Tr.ok (zx.ret (AV.bool (decide (GU x0 x1 ≥ 0))) []):=by kernel_rfl
def bx (x0:Sem Sh.str.sl) (x1:TS):Sem Sh.bool:=(decide (GU x0 x1 ≥ 0))
def Zy:zT:=aD [Sh.str.sl,Sh.str] [Sh.bool] fun x=>(bx x.1 x.2.1,())
theorem We:FK 50 Zy:=by
 refine zW (UZ) fun x C hC=>?_
 refine zr oV (UZ) (fun id _=>hC id) (zbQ x.1 x.2.1) ?_
 generalize hy:bx x.1 x.2.1=y
 unfold bx at hy
 try simp only [ze.eta]
 repeat' (first | with_reducible refine bF hy (fun _ hy=>?_) (fun _ hy=>?_) | with_reducible refine zz ?_)
 all_goals first | (cases hc; done) | (subst hy; first | rfl)

abbrev zcI:Nat→aJ:=fun _=>{ }
theorem U3:zK (vD).P 68 Tryz.f68 2:=bN (by kernel_rfl)
theorem zbX (x0:Sem zq.sl) (x1:Sem zq):rn vD 0 zcI Tryz.f68 [zF zq.sl x0,zF zq x1] []=Tr.ok (zx.ret (AV.bool (decide (GR x0 x1 ≥ 0))) []):=by kernel_rfl
def kV (x0:Sem zq.sl) (x1:Sem zq):Sem Sh.bool:=(decide (GR x0 x1 ≥ 0))
def ZJ:zT:=aD [zq.sl,zq] [Sh.bool] fun x=>(kV x.1 x.2.1,())
theorem Wr:FK 68 ZJ:=by
 refine zW (U3) fun x C hC=>?_
 refine zr oV (U3) (fun id _=>hC id) (zbX x.1 x.2.1) ?_
 generalize hy:kV x.1 x.2.1=y
 unfold kV at hy
 try simp only [ze.eta]
 repeat' (first | with_reducible refine bF hy (fun _ hy=>?_) (fun _ hy=>?_) | with_reducible refine zz ?_)
 all_goals first | (cases hc; done) | (subst hy; first | rfl)

noncomputable def Gt:=vD.addL [(116,Tg),(50,Zy),(68,ZJ)]
theorem Cp:zy Gt:=oV.addL <| fc QX <| fc We <| fc Wr jp
noncomputable section

abbrev OY:Nat→aJ:=fun j=>if j=2 then { slots:=[0,12,13,14] } else { }
inductive FJ where
 | h2 (i13:Int) (i14:Int) (z0:zo af)
abbrev NH:FJ→Nat×St
 | .h2 i13 i14 z0=>(2,⟨tm 65 [(0,AV.ptr 0 0),(12,AV.vec 1),(13,ai i13),(14,ai i14)],[AO.box (ch [1] af z0),AO.vec zh z0.2.2.2.2.2.2.2.2.1]⟩)
theorem zdi:zK Gt.P 37 Tryz.f37 1:=bN (by kernel_rfl)
def Se (y:zo af):Tr (FJ ⊕ aF):=Tr.to (FJ.h2 (↑y.2.2.2.2.2.2.2.2.1.length:Int) 0 y)
def Fl (i13:Int) (i14:Int) (z0:zo af) (a0:ze) (a1:Sem zh) (a2:Sem zf×Sem zf):Tr (FJ ⊕ aF):=Tr.br (decide (i14 < i13)) (Tr.chk (zR i14 z0.2.2.2.2.2.2.2.2.1.length) (Tr.chk (decide (i14.toNat < z0.2.2.2.2.2.2.2.2.1.length)) (Tr.br (ae (z0.2.2.2.2.2.2.2.1,z0.2.2.2.2.2.2.2.2.1,z0.2.2.2.2.2.2.2.2.2.1,[],[],a0) a1.1 != i14) (Tr.re (ai 7) (ay af z0)) (Tr.to (FJ.h2 i13 (IntKind.i64.wrap (i14+1)) z0))))) (Tr.br (ze.op z0.2.2.2.2.2.2.2.2.2.2.1==[]) (Tr.re (ai 0) (ay af z0)) (Tr.br (bif a2.2==0 then bif a2.1 != 3 then a2.1 != 0 else false else false) (Tr.re (ai 5) (ay af z0)) (Tr.re (ai a2.2) (ay af z0))))
def JD (i13:Int) (i14:Int) (z0:zo af):Tr (FJ ⊕ aF):=
 let a0:=zm z0.2.2.2.2.2.2.2.2.2.2.1
 let a1:=z0.2.2.2.2.2.2.2.2.1.getD i14.toNat (zi zh)
 let a2:=bD a0 z0.2.2.2.2.2.2.2.2.1
 Fl i13 i14 z0 a0 a1 a2
theorem zbN (y:zo af):rn Gt 2 OY Tryz.f37 [AV.ptr 0 0] (ay af y)=(Se y).map (lf Tryz.f37 NH):=by kernel_rfl
def HX:FJ→Tr (FJ ⊕ aF)
 | .h2 i13 i14 z0=>JD i13 i14 z0
theorem zdX:∀ s,run Gt 2 OY (Func.results Tryz.f37).toList 400 (zI Tryz.f37 (NH s).1) (NH s).2=(HX s).map (lf Tryz.f37 NH) | .h2 i13 i14 z0=>by kernel_rfl
def sD (y:zo af):Option (zC (List.map some [zf])×zo af):=j7 [zf] af HX 100000000 (Se y)
def fT (y:zo af):Bool:=(sD y).isSome
def eM (y:zo af):(Sem zf)×zo af:=(fun r:zC (List.map some [zf])×zo af=>(r.1.1,r.2)) ((sD y).getD (cA [zf],fH af))
def Zo:zT:=qN af [] [zf] af (fun y _=>fT y) fun y _=>(((eM y).1,()),(eM y).2)
theorem V2:FK 37 Zo:=jL (keep:=OY) (gas:=400) (n:=100000000) (e:=NH) (t:=HX) (i:=fun y x=>Se y) Cp zdi (fun y x=>zbN y) zdX (fun _ _=>by kernel_rfl) (fun _ _=>by kernel_rfl)

def N4:=Gt.add 37 Zo
theorem Cq:zy N4:=Cp.add V2
end

noncomputable def ZM:zT:=bh (List.replicate 2 none) (fF N4 Tryz.f74 (List.replicate 2 none))
theorem Wu:FK 74 ZM:=cm _ Cq (bN (by kernel_rfl))

noncomputable def Gu:=N4.add 74 ZM
theorem ux:zy Gu:=Cq.add Wu

abbrev xe (s:List zw) (l:LF) (i:Int):St:={ tmps:=[.sl zq l,.clo (.func 74) [] [.ptr 0 0],.any,.any,.any,.any,.any,.int .i64 l.length,.int .i64 i,.any,.any,.any,.any,.any,.any,.any,.any,.any,.any],heap:=[.box [.sl .str s]] }
theorem Oi (s:List zw) (l:LF):run Gu 1 BF Tryz.f98.results.toList 300 (bv Tryz.f98) (bc Tryz.f98.ntmps [.sl zq l,.clo (.func 74) [] [.ptr 0 0]] [.box [.sl .str s]])=.ok (.head 2 (zI Tryz.f98 2) (xe s l 0)):=by kernel_rfl
theorem PH (s:List zw) (l:LF) (i:Int):run Gu 1 BF Tryz.f98.results.toList 300 (zI Tryz.f98 2) (xe s l i)=nU (K:=zI Tryz.f98 2) (e:=zq) l (fun x=>bx s x.2) (xe s l) [.box [.sl .str s]] i:=by kernel_rfl

theorem Pw:zK Gu.P 98 Tryz.f98 2:=bN (by kernel_rfl)
def zbf:ie [some (.sl zq),none]:=fun x h=>match x,h with
 | (l,.clo (.func 74) [] [.ptr 0 0],_),[.box [.sl .str s]]=>.ok (.int .i64 (aj (fun x=>bx s x.2) l 0),[.box [.sl .str s]])
 | _,_=>.err
def Z1:zT:=bh [some (.sl zq),none] zbf
theorem WJ:FK 98 Z1:=by
 refine dD Pw fun x h0 res hx C hC=>?_
 unfold zbf at hx
 split at hx
 ·rename_i l u s
  simp only [Tr.val_ok,bz] at hx
  subst hx
  refine Reach.len 0 zq l rfl fun hl=>?_
  refine zr (n0:=1) ux Pw hC (Oi s l) ?_
  exact lU l (fun x=>bx s x.2) (xe s l) ux Pw hC (PH s l) hl _ 0 rfl (aK _)
 ·simp at hx

noncomputable def N5:=Gu.add 98 Z1
theorem Cr:zy N5:=ux.add WJ

noncomputable def ZN:zT:=bh (List.replicate 2 none) (fF N5 Tryz.f75 (List.replicate 2 none))
theorem Wv:FK 75 ZN:=cm _ Cr (bN (by kernel_rfl))

noncomputable def Ug:=N5.add 75 ZN
theorem uy:zy Ug:=Cr.add Wv
noncomputable section
abbrev cpR:List CP:=[.d zj]
abbrev W7:List CP:=[.d .str,.nil,.d zf,.nil,.nil,.d .str,.d zf,.d zf,.d .str,.d .str,.nil,.nil]
abbrev zbn:List CP:=[.d zl,.vec (.sl zg)]
abbrev nu:List CP:=[.d zk]
abbrev ij:List CP:=[.d .str,.d .str,.d .str,.nil,.nil,.d .str,.nil,.nil,.d .str,.d zf,.d zf,.d .str,.d .str,.nil,.nil,.nil,.d .str,.d zf,.d zf,.d .str,.d .str,.nil,.d .str]
abbrev Ny:List CP:=[.d .str,.d .str,.d .str,.d (.sl .str),.d (.sl zh),.d .str,.d (.sl .str),.vec ib,.d .expr,.d (.sl zg),.nil,.d .expr,.d .str]
abbrev Nz:List CP:=[.d .str,.d .str,.d .str,.d (.sl .str),.d (.sl zh),.d .str,.d (.sl .str),.vec ib,.d .expr,.d (.sl zg),.vec gy,.d .expr,.d .str]

abbrev zco:Nat→aJ:=fun j=>if j=6 then { slots:=[1,2,3,4,5],prom:=[(3,some 11,.sl zg)] } else { }
inductive H7 where
 | h6 (i4:Int) (i5:Int) (z0:zo cpR) (z1:zo W7) (z2:zo zbn)
abbrev zeK:H7→Nat×St
 | .h6 i4 i5 z0 z1 z2=>(6,⟨tm 38 [(1,AV.ptr 0 0),(2,AV.ptr 1 0),(3,AV.ptr 2 0),(4,AV.int .i64 i4),(5,AV.int .i64 i5)],[AO.box (ch [] cpR z0),AO.box (ch [] W7 z1),AO.box (ch [3] zbn z2),AO.vec zg.sl z2.2.1]⟩)
def XA (x0:Sem zj):Tr (H7 ⊕ aF):=
 let a0:=(u6 (x0.1.1,x0.1.2.1,x0.1.2.2.1,x0.1.2.2.2.1,x0.1.2.2.2.2.1,zm x0.1.2.2.2.2.2),[],())
 Tr.br (decide ((↑(length x0.2):Int) > 200)) (Tr.to (H7.h6 201 0 (x0,()) ([],0,[],0,0,[],[],()) a0))
 (Tr.to (H7.h6 40 0 (x0,()) ([],0,[],0,0,[],[],()) a0))
def MI:H7→Tr (H7 ⊕ aF)
 | .h6 i4 i5 z0 z1 z2=>
  let a0:=(↑(length z0.1.2):Int)
  let a1:=[lE (getD z0.1.2 i5.toNat (zi zg.sl))]
  Tr.br (bif decide (i5 < a0) then decide (i5 < i4) else false)
  (Tr.chk (zR i5 (length z0.1.2))
   (Tr.chk (decide (z2.2.1.length+a1.length≤1073741824)) (Tr.to (H7.h6 i4 (IntKind.i64.wrap (i5+1)) z0 z1 (z2.1,z2.2.1++a1,())))))
  (Tr.re
   (AV.agg [AV.str z2.1.1,AV.sl zh z2.1.2.1,AV.int .i64 z2.1.2.2.1,AV.sl zf z2.1.2.2.2.1,AV.sl zq z2.1.2.2.2.2.1,AV.str (ze.op z2.1.2.2.2.2.2),AV.int .i64 (ze.v z2.1.2.2.2.2.2).1,AV.int .i64 (ze.v z2.1.2.2.2.2.2).2.1,AV.str (ze.v z2.1.2.2.2.2.2).2.2,AV.str (ze.s z2.1.2.2.2.2.2),AV.sl Sh.expr (ze.l z2.1.2.2.2.2.2),AV.vec 0])
   [AO.vec zg.sl z2.2.1])
def yM (x0:Sem zj):=aA [zj] MI 100000000 (XA x0)
def IV (x0:Sem zj):=(yM x0).isSome
def vR (x0:Sem zj):=o1 (yM x0)
def Zb:=FT [zj] [zj] fun x=>yM x.1
theorem VN:FK 21 Zb:=uy.T1 (f:=Tryz.f21) (keep:=zco) (e:=zeK)

abbrev zgo:Nat→aJ:=fun j=>if j=3 then { slots:=[1,2,3,4],prom:=[(3,some 7,ib)] } else if j=7 then { slots:=[1,2,3,5],prom:=[(3,some 15,gy)] } else { }
inductive T4 where
 | h3 (i4:Int) (z0:zo nu) (z1:zo ij) (z2:zo Ny)
 | h7 (i5:Int) (z0:zo nu) (z1:zo ij) (z2:zo Nz)
abbrev e8p:T4→Nat×St
 | .h3 i4 z0 z1 z2=>(3,⟨tm 103 [(1,AV.ptr 0 0),(2,AV.ptr 1 0),(3,AV.ptr 2 0),(4,AV.int .i64 i4)],[AO.box (ch [] nu z0),AO.box (ch [] ij z1),AO.box (ch [3] Ny z2),AO.vec (Sh.str.pr Sh.str) z2.2.2.2.2.2.2.2.1]⟩)
 | .h7 i5 z0 z1 z2=>(7,⟨tm 103 [(1,AV.ptr 0 0),(2,AV.ptr 1 0),(3,AV.ptr 2 0),(5,AV.int .i64 i5)],[AO.box (ch [] nu z0),AO.box (ch [] ij z1),AO.box (ch [3,4] Nz z2),AO.vec (Sh.str.pr Sh.str) z2.2.2.2.2.2.2.2.1,AO.vec (Sh.str.pr Sh.expr) z2.2.2.2.2.2.2.2.2.2.2.1]⟩)
def i8p (x0:Sem zk):Tr (T4 ⊕ aF):=
 Tr.chk (eL x0.1)
 (Tr.chk (eL x0.2.1)
  (Tr.chk (eL x0.2.2.1) (Tr.chk (eL x0.2.2.2.2.2.1) (Tr.chk (eL x0.2.2.2.2.2.2.2.2.2.2.2.2) (Tr.chk (nV x0.2.2.2.1) (Tr.chk (nV x0.2.2.2.2.2.2.1) (Tr.to (T4.h3 0 (x0,()) ([],[],[],[],[],0,0,[],[],[],0,0,[],[],[],()) (cJ x0.1,cJ x0.2.1,cJ x0.2.2.1,jq x0.2.2.2.1,qo x0.2.2.2.2.1,
  cJ x0.2.2.2.2.2.1,jq x0.2.2.2.2.2.2.1,[],cY (zm x0.2.2.2.2.2.2.2.2.1),lE x0.2.2.2.2.2.2.2.2.2.1,cY (zm x0.2.2.2.2.2.2.2.2.2.2.2.1),cJ x0.2.2.2.2.2.2.2.2.2.2.2.2,())))))))))
def SU:T4→Tr (T4 ⊕ aF)
 | .h3 i4 z0 z1 z2=>
  let a0:=(↑(length z0.1.2.2.2.2.2.2.2.1):Int)
  let a1:=zR i4 (length z0.1.2.2.2.2.2.2.2.1)
  let a2:=getD z0.1.2.2.2.2.2.2.2.1 i4.toNat (zi ib)
  let a3:=[(cJ a2.1,cJ a2.2)]
  Tr.br (bif decide (i4 < a0) then decide (i4 < 10) else false)
  (Tr.chk a1
   (Tr.chk (eL a2.1) (Tr.chk a1 (Tr.chk (eL a2.2) (Tr.chk (decide (z2.2.2.2.2.2.2.2.1.length+a3.length≤1073741824)) (Tr.to (T4.h3 (IntKind.i64.wrap (i4+1)) z0 z1 (z2.1,z2.2.1,z2.2.2.1,z2.2.2.2.1,z2.2.2.2.2.1,z2.2.2.2.2.2.1,z2.2.2.2.2.2.2.1,z2.2.2.2.2.2.2.2.1++a3,z2.2.2.2.2.2.2.2.2))))))))
  (Tr.to
   (T4.h7 0 z0 z1 (z2.1,z2.2.1,z2.2.2.1,z2.2.2.2.1,z2.2.2.2.2.1,z2.2.2.2.2.2.1,z2.2.2.2.2.2.2.1,z2.2.2.2.2.2.2.2.1,z2.2.2.2.2.2.2.2.2.1,z2.2.2.2.2.2.2.2.2.2.1,[],z2.2.2.2.2.2.2.2.2.2.2)))
 | .h7 i5 z0 z1 z2=>
  let a0:=(↑(length z0.1.2.2.2.2.2.2.2.2.2.2.1):Int)
  let a1:=zR i5 (length z0.1.2.2.2.2.2.2.2.2.2.2.1)
  let a2:=getD z0.1.2.2.2.2.2.2.2.2.2.2.1 i5.toNat (zi gy)
  let a3:=[(cJ a2.1,zm (cY (zm a2.2)))]
  Tr.br (bif decide (i5 < a0) then decide (i5 < 10) else false)
  (Tr.chk a1
   (Tr.chk (eL a2.1) (Tr.chk a1 (Tr.chk (decide (z2.2.2.2.2.2.2.2.2.2.2.1.length+a3.length≤1073741824)) (Tr.to (T4.h7 (IntKind.i64.wrap (i5+1)) z0 z1 (z2.1,z2.2.1,z2.2.2.1,z2.2.2.2.1,z2.2.2.2.2.1,z2.2.2.2.2.2.1,z2.2.2.2.2.2.2.1,z2.2.2.2.2.2.2.2.1,z2.2.2.2.2.2.2.2.2.1,z2.2.2.2.2.2.2.2.2.2.1,z2.2.2.2.2.2.2.2.2.2.2.1++a3,z2.2.2.2.2.2.2.2.2.2.2.2)))))))
  (Tr.re
   (AV.agg [AV.str z2.1,AV.str z2.2.1,AV.str z2.2.2.1,AV.sl Sh.str z2.2.2.2.1,AV.sl zh z2.2.2.2.2.1,AV.str z2.2.2.2.2.2.1,AV.sl Sh.str z2.2.2.2.2.2.2.1,AV.vec 0,AV.str (ze.op z2.2.2.2.2.2.2.2.2.1),AV.int .i64 (ze.v z2.2.2.2.2.2.2.2.2.1).1,AV.int .i64 (ze.v z2.2.2.2.2.2.2.2.2.1).2.1,AV.str (ze.v z2.2.2.2.2.2.2.2.2.1).2.2,AV.str (ze.s z2.2.2.2.2.2.2.2.2.1),
   AV.sl Sh.expr (ze.l z2.2.2.2.2.2.2.2.2.1),AV.sl zg z2.2.2.2.2.2.2.2.2.2.1,AV.vec 1,AV.str (ze.op z2.2.2.2.2.2.2.2.2.2.2.2.1),AV.int .i64 (ze.v z2.2.2.2.2.2.2.2.2.2.2.2.1).1,AV.int .i64 (ze.v z2.2.2.2.2.2.2.2.2.2.2.2.1).2.1,AV.str (ze.v z2.2.2.2.2.2.2.2.2.2.2.2.1).2.2,AV.str (ze.s z2.2.2.2.2.2.2.2.2.2.2.2.1),
   AV.sl Sh.expr (ze.l z2.2.2.2.2.2.2.2.2.2.2.2.1),AV.str z2.2.2.2.2.2.2.2.2.2.2.2.2.1])
   [AO.vec (Sh.str.pr Sh.str) z2.2.2.2.2.2.2.2.1,AO.vec (Sh.str.pr Sh.expr) z2.2.2.2.2.2.2.2.2.2.2.1])
def uF (x0:Sem zk):=aA [zk] SU 100000000 (i8p x0)
def uE (x0:Sem zk):=(uF x0).isSome
def CV (x0:Sem zk):=o1 (uF x0)
def F8p:=FT [zk] [zk] fun x=>uF x.1
theorem za4:FK 8 F8p:=uy.T1 (f:=Tryz.f8) (keep:=zgo) (e:=e8p)

def Ui:=Ug.addL [(21,Zb),(8,F8p)]
theorem Cx:zy Ui:=uy.addL <| fc VN <| fc za4 jp
end
noncomputable section

abbrev zgj:Nat→aJ:=fun j=>if j=3 then { slots:=[0,3,4],prom:=[(3,none,zj)] } else { }
inductive Yw where
 | h3 (l0:List (Sem zj)) (i4:Int) (lh_0:List (Sem zj))
abbrev e7p:Yw→Nat×St
 | .h3 l0 i4 lh_0=>(3,⟨tm 24 [(0,AV.sl zj l0),(3,AV.vec 0),(4,AV.int .i64 i4)],[AO.vec zj lh_0]⟩)
def i7p (x0:Sem zj.sl):Tr (Yw ⊕ aF):=
 Tr.to (Yw.h3 x0 0 [])
def t7p:Yw→Tr (Yw ⊕ aF)
 | .h3 l0 i4 lh_0=>
  let a0:=l0.getD i4.toNat (zi zj)
  let a1:=((a0.1.1,a0.1.2.1,a0.1.2.2.1,a0.1.2.2.2.1,a0.1.2.2.2.2.1,zm a0.1.2.2.2.2.2),a0.2)
  let a2:=vR a1
  let a3:=[((a2.1.1,a2.1.2.1,a2.1.2.2.1,a2.1.2.2.2.1,a2.1.2.2.2.2.1,zm a2.1.2.2.2.2.2),a2.2)]
  Tr.br (bif decide (i4 < (↑l0.length:Int)) then decide (i4 < 13) else false)
  (Tr.chk (zR i4 l0.length)
   (Tr.chk (IV a1) (Tr.chk (decide (lh_0.length+a3.length≤1073741824)) (Tr.to (Yw.h3 l0 (IntKind.i64.wrap (i4+1)) (lh_0++a3))))))
  (Tr.re (AV.vec 0)
   [AO.vec zj lh_0])
def yN (x0:Sem zj.sl):=aA [zj.sl] t7p 100000000 (i7p x0)
def IW (x0:Sem zj.sl):=(yN x0).isSome
def vS (x0:Sem zj.sl):=o1 (yN x0)
def F7p:=FT [zj.sl] [zj.sl] fun x=>yN x.1
theorem zaV:FK 7 F7p:=Cx.T1 (f:=Tryz.f7) (keep:=zgj) (e:=e7p)

def Gy:=Ui.add 7 F7p
theorem Cy:zy Gy:=Cx.add zaV
end
noncomputable section

abbrev OX:Nat→aJ:=fun j=>if j=3 then { slots:=[0,3,14,15,16] } else if j=11 then { slots:=[0,3,55,56,57] } else { }
inductive tY where
 | h3 (l14:LS) (i15:Int) (i16:Int) (z0:zo aX) (jb0:LS)
 | h11 (l55:List (Sem zj)) (i56:Int) (i57:Int) (z0:zo aX) (jb0:LS)
abbrev NG:tY→Nat×St
 | .h3 l14 i15 i16 z0 jb0=>(3,⟨tm 122 [(0,AV.ptr 0 0),(3,AV.ptr 1 0),(14,AV.sl Sh.str l14),(15,ai i15),(16,ai i16)],[AO.box (ch [] aX z0),AO.box [AV.sl Sh.str jb0]]⟩)
 | .h11 l55 i56 i57 z0 jb0=>(11,⟨tm 122 [(0,AV.ptr 0 0),(3,AV.ptr 1 0),(55,AV.sl zj l55),(56,ai i56),(57,ai i57)],[AO.box (ch [] aX z0),AO.box [AV.sl Sh.str jb0]]⟩)
theorem zdh:zK Gy.P 36 Tryz.f36 1:=bN (by kernel_rfl)
def Sd (y:zo aX):Tr (tY ⊕ aF):=
 let a0:=iR (y.2.2.2.2.1,y.2.2.2.2.2.1,y.2.2.2.2.2.2.1,(y.2.2.2.2.2.2.2.1,[],y.2.2.2.2.2.2.2.2.1,[],[],zm y.2.2.2.2.2.2.2.2.2.1),[],y.2.2.2.2.2.2.2.2.2.2.1)
 Tr.to (tY.h3 a0 (↑(length a0):Int) 0 y a0)
def Fk (l14:LS) (i15:Int) (i16:Int) (z0:zo aX) (jb0:LS) (a0:Sem zf) (a1:Sem zf):Tr (tY ⊕ aF):=Tr.br (decide (i16 < i15)) (Tr.chk (zR i16 l14.length) (Tr.br (decide (a0 < 0)) (Tr.re (ai 6) (ay aX z0)) (Tr.to (tY.h3 l14 i15 (IntKind.i64.wrap (i16+1)) z0 jb0)))) (Tr.br (bif decide (a1 ≥ 0) then true else z0.2.2.2.2.2.1==z0.2.2.2.2.2.2.1) (Tr.re (ai 7) (ay aX z0)) (Tr.to (tY.h11 z0.1 (↑(length z0.1):Int) 0 z0 jb0)))
def JC (l14:LS) (i15:Int) (i16:Int) (z0:zo aX) (jb0:LS):Tr (tY ⊕ aF):=
 let a0:=zZ z0.1 (l14.getD i16.toNat (zi Sh.str))
 let a1:=zZ z0.1 z0.2.1.2.1
 Fk l14 i15 i16 z0 jb0 a0 a1
def A9 (l55:List (Sem zj)) (i56:Int) (i57:Int) (z0:zo aX) (jb0:LS) (a0:Sem zj) (a1:Int) (a2:Sem zf) (a3:Sem zf) (a4:Sem zj) (a5:Sem zj):Tr (tY ⊕ aF):=Tr.br (decide (i57 < i56)) (Tr.chk (zR i57 l55.length) (Tr.br (!bx jb0 a0.1.1) (Tr.br (decide (a1 ≥ 0)) (Tr.re (ai 10) (ay aX z0)) (Tr.to (tY.h11 l55 i56 (IntKind.i64.wrap (i57+1)) z0 jb0))) (Tr.to (tY.h11 l55 i56 (IntKind.i64.wrap (i57+1)) z0 jb0)))) (Tr.chk (zR a2 (length z0.1)) (Tr.br (!z0.2.2.2.2.2.2.1==[]) (Tr.chk (zR a3 (length z0.1)) (Tr.re (ai 0) (ay aX (z0.1,z0.2.1,a4.1,a5.1,z0.2.2.2.2)))) (Tr.re (ai 0) (ay aX (z0.1,z0.2.1,a4.1,z0.2.2.2)))))
def Fj (l55:List (Sem zj)) (i56:Int) (i57:Int) (z0:zo aX) (jb0:LS):Tr (tY ⊕ aF):=
 let a0:=l55.getD i57.toNat (zi zj)
 let a1:=aj (fun x=>bx jb0 x.2) a0.1.2.2.2.2.1 0
 let a2:=zZ z0.1 z0.2.2.2.2.2.1
 let a3:=zZ z0.1 z0.2.2.2.2.2.2.1
 let a4:=getD z0.1 (toNat a2) (zi zj)
 let a5:=getD z0.1 (toNat a3) (zi zj)
 A9 l55 i56 i57 z0 jb0 a0 a1 a2 a3 a4 a5
theorem zbM (y:zo aX):rn Gy 1 OX Tryz.f36 [AV.ptr 0 0] (ay aX y)=(Sd y).map (lf Tryz.f36 NG):=by kernel_rfl
def A8:tY→Tr (tY ⊕ aF)
 | .h3 l14 i15 i16 z0 jb0=>JC l14 i15 i16 z0 jb0
 | .h11 l55 i56 i57 z0 jb0=>Fj l55 i56 i57 z0 jb0
theorem zdW:∀ s,run Gy 1 OX (Func.results Tryz.f36).toList 400 (zI Tryz.f36 (NG s).1) (NG s).2=(A8 s).map (lf Tryz.f36 NG) | .h3 l14 i15 i16 z0 jb0=>by kernel_rfl | .h11 l55 i56 i57 z0 jb0=>by kernel_rfl
def pb (y:zo aX):Option (zC (List.map some [zf])×zo aX):=j7 [zf] aX A8 100000000 (Sd y)
def lG (y:zo aX):Bool:=(pb y).isSome
def lF (y:zo aX):(Sem zf)×zo aX:=(fun r:zC (List.map some [zf])×zo aX=>(r.1.1,r.2)) ((pb y).getD (cA [zf],fH aX))
def Zn:zT:=qN aX [] [zf] aX (fun y _=>lG y) fun y _=>(((lF y).1,()),(lF y).2)
theorem V1:FK 36 Zn:=jL (keep:=OX) (gas:=400) (n:=100000000) (e:=NG) (t:=A8) (i:=fun y x=>Sd y) Cy zdh (fun y x=>zbM y) zdW (fun _ _=>by kernel_rfl) (fun _ _=>by kernel_rfl)

def Gv:=Gy.add 36 Zn
theorem Ct:zy Gv:=Cy.add V1
end
noncomputable section
abbrev dp:List CP:=[.d (.sl zj),.d zk,.d zl,.d zl,.d .str,.d .str,.d .str,.d .str,.vec zh,.d zf,.nil,.nil,.d .expr,.vec zf,.d zf]

abbrev O0:Nat→aJ:=fun j=>if j=3 then { slots:=[1,3,14,15,16,0],prom:=[(0,some 60,.int .i64),(0,some 50,zh)] } else if j=12 then { slots:=[1,63,64,65,0] } else if j=1000000 then { sett:=[(0,60)] } else { }
inductive qH where
 | h3 (l14:LS) (i15:Int) (i16:Int) (z0:zo dp)
 | h12 (i64:Int) (i65:Int) (z0:zo dp)
 | h12b (i64:Int) (i65:Int) (z0:zo dp)
abbrev NJ:qH→Nat×St
 | .h3 l14 i15 i16 z0=>(3,⟨tm 80 [(0,AV.ptr 0 0),(1,AV.ptr 1 0),(3,AV.clo (Fn.func 115) [] [AV.ptr 1 0]),(14,AV.sl Sh.str l14),(15,ai i15),(16,ai i16)],[AO.box (ch [2,3] dp z0),AO.box [AV.ptr 0 0],AO.vec zh z0.2.2.2.2.2.2.2.2.1,AO.vec zf z0.2.2.2.2.2.2.2.2.2.2.2.1]⟩)
 | .h12 i64 i65 z0=>(12,⟨tm 80 [(0,AV.ptr 0 0),(1,AV.ptr 1 0),(63,AV.vec 2),(64,ai i64),(65,ai i65)],[AO.box (ch [3,2] dp z0),AO.box [AV.ptr 0 0],AO.vec zf z0.2.2.2.2.2.2.2.2.2.2.2.1,AO.vec zh z0.2.2.2.2.2.2.2.2.1]⟩)
 | .h12b i64 i65 z0=>(12,⟨tm 80 [(0,AV.ptr 0 0),(1,AV.ptr 1 0),(63,AV.vec 2),(64,ai i64),(65,ai i65)],[AO.box (ch [3,2] dp z0),AO.box [AV.ptr 0 0],AO.frz zf z0.2.2.2.2.2.2.2.2.2.2.2.1,AO.vec zh z0.2.2.2.2.2.2.2.2.1]⟩)
theorem zdF:zK Gv.P 66 Tryz.f66 1:=bN (by kernel_rfl)
def Sj (y:zo aX):Tr (qH ⊕ aF):=Tr.to (qH.h3 y.2.1.2.2.2.1 (↑(length y.2.1.2.2.2.1):Int) 0 (y.1,y.2.1,y.2.2.1,y.2.2.2.1,y.2.2.2.2.1,y.2.2.2.2.2.1,y.2.2.2.2.2.2.1,y.2.2.2.2.2.2.2.1,[],y.2.2.2.2.2.2.2.2.1,y.2.2.2.2.2.2.2.2.2.1,[],y.2.2.2.2.2.2.2.2.2.2))
def Fp (l14:LS) (i15:Int) (i16:Int) (z0:zo dp) (a0:Sem zf) (a1:LI) (a2:LC):Tr (qH ⊕ aF):=Tr.br (decide (i16 < i15)) (Tr.chk (zR i16 l14.length) (Tr.br (decide (a0 < 0)) (Tr.re (ai 4) (ay af z0)) (Tr.chk (decide (z0.2.2.2.2.2.2.2.2.2.2.2.1.length+a1.length≤1073741824)) (Tr.chk (zR a0 (length z0.2.2.1.2.1)) (Tr.chk (decide (z0.2.2.2.2.2.2.2.2.1.length+a2.length≤1073741824)) (Tr.to (qH.h3 l14 i15 (IntKind.i64.wrap (i16+1)) (z0.1,z0.2.1,z0.2.2.1,z0.2.2.2.1,z0.2.2.2.2.1,z0.2.2.2.2.2.1,z0.2.2.2.2.2.2.1,z0.2.2.2.2.2.2.2.1,z0.2.2.2.2.2.2.2.2.1++a2,z0.2.2.2.2.2.2.2.2.2.1,z0.2.2.2.2.2.2.2.2.2.2.1,z0.2.2.2.2.2.2.2.2.2.2.2.1++a1,z0.2.2.2.2.2.2.2.2.2.2.2.2)))))))) (Tr.to (qH.h12 (↑z0.2.2.2.2.2.2.2.2.2.2.2.1.length:Int) 0 z0))
def JH (l14:LS) (i15:Int) (i16:Int) (z0:zo dp):Tr (qH ⊕ aF):=
 let a0:=ae (z0.2.2.1.1,z0.2.2.1.2.1,z0.2.2.1.2.2.1,z0.2.2.1.2.2.2.1,z0.2.2.1.2.2.2.2.1,zm z0.2.2.1.2.2.2.2.2) (l14.getD i16.toNat (zi Sh.str))
 let a1:=[a0]
 let a2:=[getD z0.2.2.1.2.1 (toNat a0) (zi zh)]
 Fp l14 i15 i16 z0 a0 a1 a2
def Bc (i64:Int) (i65:Int) (z0:zo dp) (a0:Int):Tr (qH ⊕ aF):=Tr.br (decide (i65 < i64)) (Tr.chk (zR i65 z0.2.2.2.2.2.2.2.2.2.2.2.1.length) (Tr.chk (decide (i65.toNat < z0.2.2.2.2.2.2.2.2.2.2.2.1.length)) (Tr.chk (decide (0≤0)&&decide (0≤i65)&&decide (i65≤a0)) (Tr.br (rk (List.take (i65.toNat - toNat 0) (List.drop (toNat 0) z0.2.2.2.2.2.2.2.2.2.2.2.1)) (z0.2.2.2.2.2.2.2.2.2.2.2.1.getD i65.toNat (zi zf))) (Tr.re (ai 7) (ay af z0)) (Tr.to (qH.h12b i64 (IntKind.i64.wrap (i65+1)) z0)))))) (Tr.re (ai 0) (ay af z0))
def Fo (i64:Int) (i65:Int) (z0:zo dp):Tr (qH ⊕ aF):=
 let a0:=(↑z0.2.2.2.2.2.2.2.2.2.2.2.1.length:Int)
 Bc i64 i65 z0 a0
def u5 (i64:Int) (i65:Int) (z0:zo dp) (a0:Int):Tr (qH ⊕ aF):=Tr.br (decide (i65 < i64)) (Tr.chk (zR i65 z0.2.2.2.2.2.2.2.2.2.2.2.1.length) (Tr.chk (decide (0≤0)&&decide (0≤i65)&&decide (i65≤a0)) (Tr.br (rk (List.take (i65.toNat - toNat 0) (List.drop (toNat 0) z0.2.2.2.2.2.2.2.2.2.2.2.1)) (z0.2.2.2.2.2.2.2.2.2.2.2.1.getD i65.toNat (zi zf))) (Tr.re (ai 7) (ay af z0)) (Tr.to (qH.h12b i64 (IntKind.i64.wrap (i65+1)) z0))))) (Tr.re (ai 0) (ay af z0))
def Bb (i64:Int) (i65:Int) (z0:zo dp):Tr (qH ⊕ aF):=
 let a0:=(↑z0.2.2.2.2.2.2.2.2.2.2.2.1.length:Int)
 u5 i64 i65 z0 a0
theorem zbV (y:zo aX):rn Gv 1 O0 Tryz.f66 [AV.ptr 0 0] (ay aX y)=(Sj y).map (lf Tryz.f66 NJ):=by kernel_rfl
def oE:qH→Tr (qH ⊕ aF)
 | .h3 l14 i15 i16 z0=>JH l14 i15 i16 z0
 | .h12 i64 i65 z0=>Fo i64 i65 z0
 | .h12b i64 i65 z0=>Bb i64 i65 z0
theorem zd3:∀ s,run Gv 1 O0 (Func.results Tryz.f66).toList 400 (zI Tryz.f66 (NJ s).1) (NJ s).2=(oE s).map (lf Tryz.f66 NJ) | .h3 l14 i15 i16 z0=>by kernel_rfl | .h12 i64 i65 z0=>by kernel_rfl | .h12b i64 i65 z0=>by kernel_rfl
def wF (y:zo aX):Option (zC (List.map some [zf])×zo af):=j7 [zf] af oE 100000000 (Sj y)
def mC (y:zo aX):Bool:=(wF y).isSome
def je (y:zo aX):(Sem zf)×zo af:=(fun r:zC (List.map some [zf])×zo af=>(r.1.1,r.2)) ((wF y).getD (cA [zf],fH af))
def ZH:zT:=qN aX [] [zf] af (fun y _=>mC y) fun y _=>(((je y).1,()),(je y).2)
theorem Wp:FK 66 ZH:=jL (ps:=aX) (ks:=[]) (outs:=[zf]) (keep:=O0) (gas:=400) (n:=100000000) (e:=NJ) (t:=oE) (i:=fun y x=>Sj y) Ct zdF (fun y x=>zbV y) zd3 (fun _ _=>by kernel_rfl) (fun _ _=>by kernel_rfl)

def Cu:=Gv.add 66 ZH
theorem uz:zy Cu:=Ct.add Wp
end
noncomputable section

abbrev Ma (y:zo aX):zo aX:=(y.1,(y.2.1.1,y.2.1.2.1,y.2.1.2.2.1,y.2.1.2.2.2.1,y.2.1.2.2.2.2.1,y.2.1.2.2.2.2.2.1,y.2.1.2.2.2.2.2.2.1,y.2.1.2.2.2.2.2.2.2.1,zm y.2.1.2.2.2.2.2.2.2.2.1,y.2.1.2.2.2.2.2.2.2.2.2.1,y.2.1.2.2.2.2.2.2.2.2.2.2.1,zm y.2.1.2.2.2.2.2.2.2.2.2.2.2.1,y.2.1.2.2.2.2.2.2.2.2.2.2.2.2),(y.2.2.1.1,y.2.2.1.2.1,y.2.2.1.2.2.1,y.2.2.1.2.2.2.1,y.2.2.1.2.2.2.2.1,zm y.2.2.1.2.2.2.2.2),(y.2.2.2.1.1,y.2.2.2.1.2.1,y.2.2.2.1.2.2.1,y.2.2.2.1.2.2.2.1,y.2.2.2.1.2.2.2.2.1,zm y.2.2.2.1.2.2.2.2.2),y.2.2.2.2.1,y.2.2.2.2.2.1,y.2.2.2.2.2.2.1,y.2.2.2.2.2.2.2.1,y.2.2.2.2.2.2.2.2.1,zm y.2.2.2.2.2.2.2.2.2.1,y.2.2.2.2.2.2.2.2.2.2.1,())
abbrev Kh (y:zo af):zo af:=(y.1,(y.2.1.1,y.2.1.2.1,y.2.1.2.2.1,y.2.1.2.2.2.1,y.2.1.2.2.2.2.1,y.2.1.2.2.2.2.2.1,y.2.1.2.2.2.2.2.2.1,y.2.1.2.2.2.2.2.2.2.1,zm y.2.1.2.2.2.2.2.2.2.2.1,y.2.1.2.2.2.2.2.2.2.2.2.1,y.2.1.2.2.2.2.2.2.2.2.2.2.1,zm y.2.1.2.2.2.2.2.2.2.2.2.2.2.1,y.2.1.2.2.2.2.2.2.2.2.2.2.2.2),(y.2.2.1.1,y.2.2.1.2.1,y.2.2.1.2.2.1,y.2.2.1.2.2.2.1,y.2.2.1.2.2.2.2.1,zm y.2.2.1.2.2.2.2.2),(y.2.2.2.1.1,y.2.2.2.1.2.1,y.2.2.2.1.2.2.1,y.2.2.2.1.2.2.2.1,y.2.2.2.1.2.2.2.2.1,zm y.2.2.2.1.2.2.2.2.2),y.2.2.2.2.1,y.2.2.2.2.2.1,y.2.2.2.2.2.2.1,y.2.2.2.2.2.2.2.1,y.2.2.2.2.2.2.2.2.1,y.2.2.2.2.2.2.2.2.2.1,zm y.2.2.2.2.2.2.2.2.2.2.1,y.2.2.2.2.2.2.2.2.2.2.2.1,y.2.2.2.2.2.2.2.2.2.2.2.2.1,())

abbrev UO:Nat→aJ:=fun _=>{ }
theorem zdc:zK Cu.P 30 Tryz.f30 1:=bN (by kernel_rfl)
def OC (_:zo aX) (a0:Sem zj.sl×zo [CP.d zk,CP.d zl,CP.d zl,CP.d Sh.str,CP.d Sh.str,CP.d Sh.str,CP.d Sh.str,CP.nil,CP.d zf,CP.nil,CP.nil,CP.d Sh.expr,CP.nil,CP.d zf]) (a1:Sem zf×zo af) (a2:Sem zf):Tr (Empty ⊕ aF):=Tr.chk (mC a0) (Tr.br (a1.1 != 0) (Tr.re (ai a1.1) (ay af a1.2)) (Tr.br (decide (a2 < 0)) (Tr.re (ai 1) (ay af (a1.2.1,a1.2.2.1,a1.2.2.2.1,a1.2.2.2.2.1,a1.2.2.2.2.2.1,a1.2.2.2.2.2.2.1,a1.2.2.2.2.2.2.2.1,a1.2.2.2.2.2.2.2.2.1,a1.2.2.2.2.2.2.2.2.2.1,a2,a1.2.2.2.2.2.2.2.2.2.2.2))) (Tr.re (ai 0) (ay af (a1.2.1,a1.2.2.1,a1.2.2.2.1,a1.2.2.2.2.1,a1.2.2.2.2.2.1,a1.2.2.2.2.2.2.1,a1.2.2.2.2.2.2.2.1,a1.2.2.2.2.2.2.2.2.1,a1.2.2.2.2.2.2.2.2.2.1,a2,a1.2.2.2.2.2.2.2.2.2.2.2)))))
def OB (y:zo aX):Tr (Empty ⊕ aF):=
 let a0:=Ma y
 let a1:=je a0
 let a2:=gw a1.2.2.2.2.2.2.2.2.2.2.2.2.1 a1.2.2.2.1.2.2.1
 OC y a0 a1 a2
theorem zbJ (y:zo aX):rn Cu 1 UO Tryz.f30 [AV.ptr 0 0] (ay aX y)=(OB y).map (lf Tryz.f30 e0):=by kernel_rfl
def El (y:zo aX):Option (zC (List.map some [zf])×zo af):=j7 [zf] af t0 100000000 (OB y)
def Ek (y:zo aX):Bool:=(El y).isSome
def CX (y:zo aX):(Sem zf)×zo af:=(fun r:zC (List.map some [zf])×zo af=>(r.1.1,r.2)) ((El y).getD (cA [zf],fH af))
def Zi:zT:=qN aX [] [zf] af (fun y _=>Ek y) fun y _=>(((CX y).1,()),(CX y).2)
theorem VW:FK 30 Zi:=jL (keep:=UO) (gas:=400) (n:=100000000) (e:=e0) (t:=t0) (i:=fun y x=>OB y) uz zdc (fun y x=>zbJ y) (QH _ _ _ _ _) (fun _ _=>by kernel_rfl) (fun _ _=>by kernel_rfl)

abbrev UP:Nat→aJ:=fun _=>{ }
theorem zdf:zK Cu.P 32 Tryz.f32 1:=bN (by kernel_rfl)
def OE (_:zo aX) (a0:Sem zj.sl×zo [CP.d zk,CP.d zl,CP.d zl,CP.d Sh.str,CP.d Sh.str,CP.d Sh.str,CP.d Sh.str,CP.nil,CP.d zf,CP.nil,CP.nil,CP.d Sh.expr,CP.nil,CP.d zf]) (a1:Sem zf×zo af) (a2:Sem zh) (_:Sem zh) (a4:LC) (a5:Sem zh):Tr (Empty ⊕ aF):=Tr.chk (mC a0) (Tr.br (a1.1 != 0) (Tr.re (ai a1.1) (ay af a1.2)) (Tr.chk (zR 1 a1.2.2.2.2.2.2.2.2.2.1.length) (Tr.chk (decide (toNat 1 < a1.2.2.2.2.2.2.2.2.2.1.length)) (Tr.br (a2.2.1 != 1) (Tr.re (ai 5) (ay af a1.2)) (Tr.chk (zR 0 a1.2.2.2.2.2.2.2.2.2.1.length) (Tr.chk (decide (toNat 0 < a1.2.2.2.2.2.2.2.2.2.1.length)) (Tr.chk (zR 1 a4.length) (Tr.chk (decide (toNat 1 < a4.length)) (Tr.re (ai 0) (ay af (a1.2.1,a1.2.2.1,a1.2.2.2.1,a1.2.2.2.2.1,a1.2.2.2.2.2.1,a1.2.2.2.2.2.2.1,a1.2.2.2.2.2.2.2.1,a1.2.2.2.2.2.2.2.2.1,a4.set (toNat 1) (a5.1,a5.2.1,false),a1.2.2.2.2.2.2.2.2.2.2)))))))))))
def OD (y:zo aX):Tr (Empty ⊕ aF):=
 let a0:=Ma y
 let a1:=je a0
 let a2:=a1.2.2.2.2.2.2.2.2.2.1.getD (toNat 1) (zi zh)
 let a3:=a1.2.2.2.2.2.2.2.2.2.1.getD (toNat 0) (zi zh)
 let a4:=a1.2.2.2.2.2.2.2.2.2.1.set (toNat 0) (a3.1,a3.2.1,true)
 let a5:=a4.getD (toNat 1) (zi zh)
 OE y a0 a1 a2 a3 a4 a5
theorem zbL (y:zo aX):rn Cu 1 UP Tryz.f32 [AV.ptr 0 0] (ay aX y)=(OD y).map (lf Tryz.f32 e0):=by kernel_rfl
def wE (y:zo aX):Option (zC (List.map some [zf])×zo af):=j7 [zf] af t0 100000000 (OD y)
def wD (y:zo aX):Bool:=(wE y).isSome
def uG (y:zo aX):(Sem zf)×zo af:=(fun r:zC (List.map some [zf])×zo af=>(r.1.1,r.2)) ((wE y).getD (cA [zf],fH af))
def Zl:zT:=qN aX [] [zf] af (fun y _=>wD y) fun y _=>(((uG y).1,()),(uG y).2)
theorem VZ:FK 32 Zl:=jL (keep:=UP) (gas:=400) (n:=100000000) (e:=e0) (t:=t0) (i:=fun y x=>OD y) uz zdf (fun y x=>zbL y) (QH _ _ _ _ _) (fun _ _=>by kernel_rfl) (fun _ _=>by kernel_rfl)

def Gx:=Cu.addL [(30,Zi),(32,Zl)]
theorem Cv:zy Gx:=uz.addL <| fc VW <| fc VZ jp
end
noncomputable section

abbrev OW:Nat→aJ:=fun j=>if j=11 then { slots:=[0,83,84,85],prom:=[(0,some 60,.int .i64)] } else if j=1000000 then { prom:=[(0,some 50,zh),(0,some 60,.int .i64)],sett:=[(0,60)] } else { }
inductive Br where
 | h11 (l83:LC) (i84:Int) (i85:Int) (z0:zo dp)
abbrev NF:Br→Nat×St
 | .h11 l83 i84 i85 z0=>(11,⟨tm 124 [(0,AV.ptr 0 0),(83,AV.sl zh l83),(84,ai i84),(85,ai i85)],[AO.box (ch [1,2] dp z0),AO.vec zh z0.2.2.2.2.2.2.2.2.1,AO.vec zf z0.2.2.2.2.2.2.2.2.2.2.2.1]⟩)
theorem zde:zK Gx.P 31 Tryz.f31 1:=bN (by kernel_rfl)
def GP (y:zo aX) (a0:Sem zf) (a1:Sem Sh.expr×List (Sem zf)×Sem zf×Unit) (a2:Int) (a3:Int):Tr (Br ⊕ aF):=Tr.br (decide (a0 < 0)) (Tr.re (ai 4) (ay af (y.1,y.2.1,y.2.2.1,y.2.2.2.1,y.2.2.2.2.1,y.2.2.2.2.2.1,y.2.2.2.2.2.2.1,y.2.2.2.2.2.2.2.1,[],y.2.2.2.2.2.2.2.2.1,a1))) (Tr.br (!kV y.2.2.1.2.2.2.2.1 (a0,y.2.2.2.2.2.2.1)) (Tr.re (ai 10) (ay af (y.1,y.2.1,y.2.2.1,y.2.2.2.1,y.2.2.2.2.1,y.2.2.2.2.2.1,y.2.2.2.2.2.2.1,y.2.2.2.2.2.2.2.1,[],y.2.2.2.2.2.2.2.2.1,a1))) (Tr.br (decide (a3 > 8)) (Tr.re (ai 13) (ay af (y.1,y.2.1,y.2.2.1,y.2.2.2.1,y.2.2.2.2.1,y.2.2.2.2.2.1,y.2.2.2.2.2.2.1,y.2.2.2.2.2.2.2.1,[],y.2.2.2.2.2.2.2.2.1,a1))) (Tr.chk (decide (length y.2.2.1.2.1≤1073741824)) (Tr.to (Br.h11 y.2.2.2.1.2.1 a2 0 (y.1,y.2.1,y.2.2.1,y.2.2.2.1,y.2.2.2.2.1,y.2.2.2.2.2.1,y.2.2.2.2.2.2.1,y.2.2.2.2.2.2.2.1,y.2.2.1.2.1,y.2.2.1.2.2.1,a1))))))
def Ec (y:zo aX):Tr (Br ⊕ aF):=
 let a0:=ae (y.2.2.1.1,y.2.2.1.2.1,y.2.2.1.2.2.1,y.2.2.1.2.2.2.1,y.2.2.1.2.2.2.2.1,zm y.2.2.1.2.2.2.2.2) y.2.1.2.2.2.2.2.1
 let a1:=(y.2.2.2.2.2.2.2.2.2.1,[],a0,())
 let a2:=(↑(length y.2.2.2.1.2.1):Int)
 let a3:=IntKind.i64.wrap (IntKind.i64.wrap ((↑(length y.2.2.1.2.1):Int)+a2) - 1)
 GP y a0 a1 a2 a3
def A7 (l83:LC) (i84:Int) (i85:Int) (z0:zo dp) (a0:LC) (a1:Int):Tr (Br ⊕ aF):=Tr.br (decide (i85 < i84)) (Tr.chk (zR i85 l83.length) (Tr.br (i85 != z0.2.2.2.1.2.2.1) (Tr.chk (decide (z0.2.2.2.2.2.2.2.2.2.2.2.1.length+[i85].length≤1073741824)) (Tr.chk (decide (z0.2.2.2.2.2.2.2.2.1.length+a0.length≤1073741824)) (Tr.to (Br.h11 l83 i84 a1 (z0.1,z0.2.1,z0.2.2.1,z0.2.2.2.1,z0.2.2.2.2.1,z0.2.2.2.2.2.1,z0.2.2.2.2.2.2.1,z0.2.2.2.2.2.2.2.1,z0.2.2.2.2.2.2.2.2.1++a0,z0.2.2.2.2.2.2.2.2.2.1,z0.2.2.2.2.2.2.2.2.2.2.1,z0.2.2.2.2.2.2.2.2.2.2.2.1++[i85],z0.2.2.2.2.2.2.2.2.2.2.2.2))))) (Tr.to (Br.h11 l83 i84 a1 z0)))) (Tr.re (ai 0) (ay af z0))
def Fi (l83:LC) (i84:Int) (i85:Int) (z0:zo dp):Tr (Br ⊕ aF):=
 let a0:=[l83.getD i85.toNat (zi zh)]
 let a1:=IntKind.i64.wrap (i85+1)
 A7 l83 i84 i85 z0 a0 a1
theorem zbK (y:zo aX):rn Gx 1 OW Tryz.f31 [AV.ptr 0 0] (ay aX y)=(Ec y).map (lf Tryz.f31 NF):=by kernel_rfl
def HW:Br→Tr (Br ⊕ aF)
 | .h11 l83 i84 i85 z0=>Fi l83 i84 i85 z0
theorem zdT:∀ s,run Gx 1 OW (Func.results Tryz.f31).toList 400 (zI Tryz.f31 (NF s).1) (NF s).2=(HW s).map (lf Tryz.f31 NF) | .h11 l83 i84 i85 z0=>by kernel_rfl
def yO (y:zo aX):Option (zC (List.map some [zf])×zo af):=j7 [zf] af HW 100000000 (Ec y)
def Em (y:zo aX):Bool:=(yO y).isSome
def CY (y:zo aX):(Sem zf)×zo af:=(fun r:zC (List.map some [zf])×zo af=>(r.1.1,r.2)) ((yO y).getD (cA [zf],fH af))
def Zk:zT:=qN aX [] [zf] af (fun y _=>Em y) fun y _=>(((CY y).1,()),(CY y).2)
theorem VY:FK 31 Zk:=jL (keep:=OW) (gas:=400) (n:=100000000) (e:=NF) (t:=HW) (i:=fun y x=>Ec y) Cv zde (fun y x=>zbK y) zdT (fun _ _=>by kernel_rfl) (fun _ _=>by kernel_rfl)

def Uh:=Gx.add 31 Zk
theorem Cw:zy Uh:=Cv.add VY
end
noncomputable section

abbrev lI:AV:=AV.agg [AV.str [],AV.str [],AV.str [],AV.str [],AV.nils,ai 0,AV.nils,AV.nils,AV.str [],ai 0,ai 0,AV.str [],AV.str [],AV.nils,AV.nils,ai 0]
abbrev uN (z:zo af):AV:=AV.agg [AV.str z.2.2.2.2.1,AV.str z.2.2.2.2.2.1,AV.str z.2.2.2.2.2.2.1,AV.str z.2.2.2.2.2.2.2.1,AV.vec 0,ai z.2.2.2.2.2.2.2.2.2.1,AV.nils,AV.nils,AV.str (ze.op z.2.2.2.2.2.2.2.2.2.2.1),ai (ze.v z.2.2.2.2.2.2.2.2.2.2.1).1,ai (ze.v z.2.2.2.2.2.2.2.2.2.2.1).2.1,AV.str (ze.v z.2.2.2.2.2.2.2.2.2.2.1).2.2,AV.str (ze.s z.2.2.2.2.2.2.2.2.2.2.1),AV.sl Sh.expr (ze.l z.2.2.2.2.2.2.2.2.2.2.1),AV.sl zf z.2.2.2.2.2.2.2.2.2.2.2.1,ai z.2.2.2.2.2.2.2.2.2.2.2.2.1]
abbrev Et (z:zo aX):AV:=AV.agg [AV.str z.2.2.2.2.1,AV.str z.2.2.2.2.2.1,AV.str z.2.2.2.2.2.2.1,AV.str z.2.2.2.2.2.2.2.1,AV.nils,ai z.2.2.2.2.2.2.2.2.1,AV.nils,AV.nils,AV.str (ze.op z.2.2.2.2.2.2.2.2.2.1),ai (ze.v z.2.2.2.2.2.2.2.2.2.1).1,ai (ze.v z.2.2.2.2.2.2.2.2.2.1).2.1,AV.str (ze.v z.2.2.2.2.2.2.2.2.2.1).2.2,AV.str (ze.s z.2.2.2.2.2.2.2.2.2.1),AV.sl Sh.expr (ze.l z.2.2.2.2.2.2.2.2.2.1),AV.nils,ai z.2.2.2.2.2.2.2.2.2.2.1]

def GM (_:Sem zj.sl) (x1:Sem zk) (_:ze) (_:Sem Sh.str×Sem (Sh.str.pr (Sh.str.pr (Sh.str.sl.pr (zh.sl.pr (Sh.str.pr (Sh.str.sl.pr (ib.sl.pr (Sh.expr.pr (zg.sl.pr (gy.sl.pr (Sh.expr.pr Sh.str)))))))))))) (_:Bool) (a3:Bool) (a4:Bool) (a5:Bool) (_:Sem zj.sl×zo [CP.d zk,CP.d zl,CP.d zl,CP.d Sh.str,CP.d Sh.str,CP.d Sh.str,CP.d Sh.str,CP.nil,CP.d zf,CP.nil,CP.nil,CP.d Sh.expr,CP.nil,CP.d zf]) (a7:Bool) (a8:Sem zf×zo aX) (a9:Bool) (a10:Sem zj.sl×zo [CP.d zk,CP.d zl,CP.d zl,CP.d Sh.str,CP.d Sh.str,CP.d Sh.str,CP.d Sh.str,CP.nil,CP.d zf,CP.nil,CP.nil,CP.d Sh.expr,CP.nil,CP.d zf]) (a11:Sem zf×zo af) (a12:Sem zj.sl×zo [CP.d zk,CP.d zl,CP.d zl,CP.d Sh.str,CP.d Sh.str,CP.d Sh.str,CP.d Sh.str,CP.vec zh,CP.d zf,CP.nil,CP.nil,CP.d Sh.expr,CP.d zf.sl,CP.d zf]) (a13:Sem zf×zo af) (a14:Sem zf×zo af) (a15:Sem zj.sl×zo [CP.d zk,CP.d zl,CP.d zl,CP.d Sh.str,CP.d Sh.str,CP.d Sh.str,CP.d Sh.str,CP.vec zh,CP.d zf,CP.nil,CP.nil,CP.d Sh.expr,CP.d zf.sl,CP.d zf]) (a16:Sem zf×zo af) (a17:Sem zf×zo af) (a18:Sem zj.sl×zo [CP.d zk,CP.d zl,CP.d zl,CP.d Sh.str,CP.d Sh.str,CP.d Sh.str,CP.d Sh.str,CP.vec zh,CP.d zf,CP.nil,CP.nil,CP.d Sh.expr,CP.d zf.sl,CP.d zf]) (a19:Sem zf×zo af):Tr (Empty ⊕ aF):=
 Tr.chk true (Tr.chk true (Tr.chk true (Tr.br (x1.1==[99,111,112,121]) (Tr.chk a3 (Tr.br a4 (Tr.re (AV.tup [lI,ai 1]) []) (Tr.chk a5 (Tr.chk a7 (Tr.br a9 (Tr.chk (Ek a10) (Tr.br (a11.1==0) (Tr.chk (fT a12) (Tr.br (a13.1 != 0) (Tr.re (AV.tup [lI,ai a13.1]) []) (Tr.re (AV.tup [(uN a13.2),ai 0]) [AO.vec zh a13.2.2.2.2.2.2.2.2.2.1]))) (Tr.br (a11.1 != 0) (Tr.re (AV.tup [lI,ai a11.1]) []) (Tr.re (AV.tup [(uN a11.2),ai 0]) [AO.vec zh a11.2.2.2.2.2.2.2.2.2.1])))) (Tr.br a9 Tr.err (Tr.br (a8.1 != 0) (Tr.re (AV.tup [lI,ai a8.1]) []) (Tr.re (AV.tup [(Et a8.2),ai 0]) [])))))))) (Tr.br (x1.1==[106,111,105,110]) (Tr.chk a3 (Tr.br a4 (Tr.re (AV.tup [lI,ai 1]) []) (Tr.chk a5 (Tr.chk a7 (Tr.br a9 (Tr.chk (Em a10) (Tr.br (a14.1==0) (Tr.chk (fT a15) (Tr.br (a16.1 != 0) (Tr.re (AV.tup [lI,ai a16.1]) []) (Tr.re (AV.tup [(uN a16.2),ai 0]) [AO.vec zh a16.2.2.2.2.2.2.2.2.2.1]))) (Tr.br (a14.1 != 0) (Tr.re (AV.tup [lI,ai a14.1]) []) (Tr.re (AV.tup [(uN a14.2),ai 0]) [AO.vec zh a14.2.2.2.2.2.2.2.2.2.1])))) (Tr.br a9 Tr.err (Tr.br (a8.1 != 0) (Tr.re (AV.tup [lI,ai a8.1]) []) (Tr.re (AV.tup [(Et a8.2),ai 0]) []))))))))
 (Tr.br (x1.1==[103,114,111,117,112]) (Tr.chk a3 (Tr.br a4 (Tr.re (AV.tup [lI,ai 1]) []) (Tr.chk a5 (Tr.chk a7 (Tr.br a9 (Tr.chk (wD a10) (Tr.br (a17.1==0) (Tr.chk (fT a18) (Tr.br (a19.1 != 0) (Tr.re (AV.tup [lI,ai a19.1]) []) (Tr.re (AV.tup [(uN a19.2),ai 0]) [AO.vec zh a19.2.2.2.2.2.2.2.2.2.1]))) (Tr.br (a17.1 != 0) (Tr.re (AV.tup [lI,ai a17.1]) []) (Tr.re (AV.tup [(uN a17.2),ai 0]) [AO.vec zh a17.2.2.2.2.2.2.2.2.2.1])))) (Tr.br a9 Tr.err (Tr.br (a8.1 != 0) (Tr.re (AV.tup [lI,ai a8.1]) []) (Tr.re (AV.tup [(Et a8.2),ai 0]) [])))))))) (Tr.re (AV.tup [lI,ai 1]) []))))))
def Xx (x0:Sem zj.sl) (x1:Sem zk):Tr (Empty ⊕ aF):=
 let a0:=zm x1.2.2.2.2.2.2.2.2.1
 let a1:=(x1.1,x1.2.1,x1.2.2.1,x1.2.2.2.1,x1.2.2.2.2.1,x1.2.2.2.2.2.1,x1.2.2.2.2.2.2.1,x1.2.2.2.2.2.2.2.1,a0,x1.2.2.2.2.2.2.2.2.2.1,x1.2.2.2.2.2.2.2.2.2.2.1,zm x1.2.2.2.2.2.2.2.2.2.2.2.1,x1.2.2.2.2.2.2.2.2.2.2.2.2)
 let a2 := !dK a1
 let a3:=mS a1&&bif a2 then true else mo x0
 let a4:=bif a2 then true else jP x0 != 0
 let a5:=kw 16 a0
 let a6:=(x0,a1,([],[],0,[],[],ze.mk [] (0,0,[]) [] []),([],[],0,[],[],ze.mk [] (0,0,[]) [] []),x1.1,x1.2.2.1,x1.2.2.2.2.2.2.2.2.2.2.2.2,x1.2.1,0,a0,0,())
 let a7:=lG a6
 let a8:=lF a6
 let a9:=a8.1==0
 let a10:=Ma a8.2
 let a11:=CX a10
 let a12:=Kh a11.2
 let a13:=eM a12
 let a14:=CY a10
 let a15:=Kh a14.2
 let a16:=eM a15
 let a17:=uG a10
 let a18:=Kh a17.2
 let a19:=eM a18
 GM x0 x1 a0 a1 a2 a3 a4 a5 a6 a7 a8 a9 a10 a11 a12 a13 a14 a15 a16 a17 a18 a19
def Ep (x0:Sem zj.sl) (x1:Sem zk):=aA [aB,zf] t0 100000000 (Xx x0 x1)
def Mq (x0:Sem zj.sl) (x1:Sem zk):=(Ep x0 x1).isSome
def YE (x0:Sem zj.sl) (x1:Sem zk):=o2 (Ep x0 x1)
def YS:=FT [zj.sl,zk] [aB,zf] fun x=>Ep x.1 x.2.1
theorem Vs:FK 11 YS:=Cw.T1 (f:=Tryz.f11) (keep:=k0) (e:=e0)

def Ke:=Uh.add 11 YS
theorem ly:zy Ke:=Cw.add Vs
end
noncomputable section
abbrev aG:List CP:=[.d (.sl zq),.d zf,.d .bool]

def Uy (x0:Sem (Sh.int IntKind.u8)):Tr (Empty ⊕ aF):=
 let a0:=bif decide (97≤x0) then decide (x0≤122) else false
 Tr.re (AV.bool (bif decide (65≤x0) then bif decide (x0≤90) then true else a0 else a0)) []
def lT (x0:Sem (Sh.int IntKind.u8)):=aA [Sh.bool] t0 100000000 (Uy x0)
def jJ (x0:Sem (Sh.int IntKind.u8)):=(lT x0).isSome
def lS (x0:Sem (Sh.int IntKind.u8)):=o1 (lT x0)
def Tu:=FT [Sh.int IntKind.u8] [Sh.bool] fun x=>lT x.1
theorem Ra:FK 134 Tu:=ly.T1 (f:=Tryz.f134) (keep:=k0) (e:=e0)

def zb3 (x0:Sem (Sh.int IntKind.u8)):Tr (Empty ⊕ aF):=
 Tr.re (AV.bool (bif decide (48≤x0) then decide (x0≤57) else false)) []
def tg (x0:Sem (Sh.int IntKind.u8)):=aA [Sh.bool] t0 100000000 (zb3 x0)
def fh (x0:Sem (Sh.int IntKind.u8)):=(tg x0).isSome
def gh (x0:Sem (Sh.int IntKind.u8)):=o1 (tg x0)
def Tw:=FT [Sh.int IntKind.u8] [Sh.bool] fun x=>tg x.1
theorem Rc:FK 136 Tw:=ly.T1 (f:=Tryz.f136) (keep:=k0) (e:=e0)

abbrev zcQ:=qm [(2,[0,1,5])]
inductive Lw where
 | h2 (l0:LS) (s1:TS) (i5:Int)
abbrev ze2:Lw→Nat×St
 | .h2 l0 s1 i5=>(2,⟨tm 18 [(0,AV.sl Sh.str l0),(1,AV.str s1),(5,AV.int .i64 i5)],[]⟩)
def zf9 (x0:Sem Sh.str.sl) (x1:TS):Tr (Lw ⊕ aF):=
 Tr.to (Lw.h2 x0 x1 0)
def JI:Lw→Tr (Lw ⊕ aF)
 | .h2 l0 s1 i5=>
  Tr.br (decide (i5 < (↑l0.length:Int)))
  (Tr.chk (zR i5 l0.length) (Tr.br (l0.getD i5.toNat (zi Sh.str)==s1) (Tr.re (AV.kb true) []) (Tr.to (Lw.h2 l0 s1 (IntKind.i64.wrap (i5+1))))))
  (Tr.re (AV.kb false) [])
def K2 (x0:Sem Sh.str.sl) (x1:TS):=aA [Sh.bool] JI 100000000 (zf9 x0 x1)
def K1 (x0:Sem Sh.str.sl) (x1:TS):=(K2 x0 x1).isSome
def SQ (x0:Sem Sh.str.sl) (x1:TS):=o1 (K2 x0 x1)
def ZT:=FT [Sh.str.sl,Sh.str] [Sh.bool] fun x=>K2 x.1 x.2.1
theorem WB:FK 82 ZT:=ly.T1 (f:=Tryz.f82) (keep:=zcQ) (e:=ze2)

abbrev OR:Nat→aJ:=fun _=>{ }
theorem X8:zK Ke.P 112 Tryz.f112 2:=bN (by kernel_rfl)
def Ov (y:zo aG) (x0:TS):Tr (Empty ⊕ aF):=
 let a0:=decide (y.2.1 < (↑(length y.1):Int))
 let a1:=zR y.2.1 (length y.1)
 let a2:=getD y.1 (toNat y.2.1) (zi zq)
 let a3:=a2.1==1
 let a4:=a2.1==4
 let a5:=a2.2==x0
 Tr.chk (bif a0 then a1&&bif a3 then a1 else a1&&bif a4 then a1 else true else true)
 (Tr.re (AV.bool (bif a0 then bif a3 then a5 else bif a4 then a5 else false else false)) (ay aG y))
theorem Xi (y:zo aG) (x0:TS):rn Ke 1 OR Tryz.f112 [AV.ptr 0 0,zF Sh.str x0] (ay aG y)=(Ov y x0).map (lf Tryz.f112 e0):=by kernel_rfl
def Qc (y:zo aG) (x0:TS):Option (zC (List.map some [Sh.bool])×zo aG):=j7 [Sh.bool] aG t0 100000000 (Ov y x0)
def E1 (y:zo aG) (x0:TS):Bool:=(Qc y x0).isSome
def HG (y:zo aG) (x0:TS):(Sem Sh.bool)×zo aG:=(fun r:zC (List.map some [Sh.bool])×zo aG=>(r.1.1,r.2)) ((Qc y x0).getD (cA [Sh.bool],fH aG))
def Td:zT:=qN aG [Sh.str] [Sh.bool] aG (fun y x=>E1 y x.1) fun y x=>(((HG y x.1).1,()),(HG y x.1).2)
theorem QU:FK 112 Td:=jL (ps:=aG) (ks:=[Sh.str]) (outs:=[Sh.bool]) (keep:=OR) (gas:=400) (n:=100000000) (e:=e0) (t:=t0) (i:=fun y x=>Ov y x.1) ly X8 (fun y x=>Xi y x.1) (QH _ _ _ _ _) (fun _ _=>by kernel_rfl) (fun _ _=>by kernel_rfl)

def nI:=Ke.addL [(134,Tu),(136,Tw),(82,ZT),(112,Td)]
theorem iw:zy nI:=ly.addL <| fc Ra <| fc Rc <| fc WB <| fc QU jp
end
noncomputable section

abbrev XL:=qm [(2,[1,3])]
inductive xt where
 | h2 (i3:Int) (z0:zo [CP.d zg])
abbrev zbp:xt→Nat×St
 | .h2 i3 z0=>(2,⟨tm 66 [(1,AV.ptr 0 0),(3,AV.int .i64 i3)],[AO.box (ch [] [CP.d zg] z0)]⟩)
def Ut (x0:Sem zg):Tr (xt ⊕ aF):=
 Tr.to (xt.h2 0 (x0,()))
def qA:xt→Tr (xt ⊕ aF)
 | .h2 i3 z0=>
  let a0:=(↑(length z0.1.2.2):Int)
  let a1:=zR i3 (length z0.1.2.2)
  let a2:=(↑(getD z0.1.2.2 i3.toNat 0).toNat:Int)
  let a3:=decide (a2 < 32)
  let a4:=z0.1.2.1==0
  let a5:=z0.1.2.2==[]
  Tr.br (decide (i3 < a0))
  (Tr.chk (a1&&bif a3 then true else a1)
   (Tr.br (bif a3 then true else decide (a2 > 126)) (Tr.re (AV.kb false) []) (Tr.to (xt.h2 (IntKind.i64.wrap (i3+1)) z0))))
  (Tr.br (z0.1.1==0) (Tr.re (AV.bool (bif a4 then a5 else false)) [])
   (Tr.br (z0.1.1==1) (Tr.re (AV.bool a5) []) (Tr.br (z0.1.1==2) (Tr.re (AV.bool (bif a4 then decide (a0≤40) else false)) []) (Tr.br (z0.1.1==3) (Tr.re (AV.bool (bif a4 then a5 else bif z0.1.2.1==1 then a5 else false)) []) (Tr.re (AV.kb false) [])))))
def Ey (x0:Sem zg):=aA [Sh.bool] qA 100000000 (Ut x0)
def kY (x0:Sem zg):=(Ey x0).isSome
def qy (x0:Sem zg):=o1 (Ey x0)
def S5:=FT [zg] [Sh.bool] fun x=>Ey x.1
theorem QM:FK 101 S5:=iw.T1 (f:=Tryz.f101) (keep:=XL) (e:=zbp)

def zb4 (x0:Sem Sh.bool):Tr (Empty ⊕ aF):=
 Tr.br x0 (Tr.re (AV.agg [AV.int .i64 3,AV.int .i64 1,AV.str []]) []) (Tr.re (AV.agg [AV.int .i64 3,AV.int .i64 0,AV.str []]) [])
def sU (x0:Sem Sh.bool):=aA [zg] t0 100000000 (zb4 x0)
def kc (x0:Sem Sh.bool):=(sU x0).isSome
def aS (x0:Sem Sh.bool):=o1 (sU x0)
def TA:=FT [Sh.bool] [zg] fun x=>sU x.1
theorem Rg:FK 142 TA:=iw.T1 (f:=Tryz.f142) (keep:=k0) (e:=e0)

abbrev OV:Nat→aJ:=fun _=>{ }
theorem Yd:zK nI.P 185 Tryz.f185 1:=bN (by kernel_rfl)
def Oz (x0:TS):Tr (Empty ⊕ aF):=
 Tr.re
 (AV.bool
  (bif x0==[97,110,100] then true
  else bif x0==[111,114] then true else bif x0==[61] then true else bif x0==[60] then true else bif x0==[43] then true else x0==[45]))
 []
theorem Xs (x0:TS):rn nI 0 OV Tryz.f185 [zF Sh.str x0] []=(Oz x0).map (lf Tryz.f185 e0):=by kernel_rfl
def Ji (x0:TS):Option (zC (List.map some [Sh.bool])):=aA [Sh.bool] t0 100000000 (Oz x0)
def EH (x0:TS):Bool:=(Ji x0).isSome
def KX (x0:TS):Sem Sh.bool:=(fun r:zC (List.map some [Sh.bool])=>r.1) ((Ji x0).getD (cA [Sh.bool]))
def TN:zT:=zN [Sh.str] [Sh.bool] (fun x=>EH x.1) fun x=>(KX x.1,())
theorem Rt:FK 185 TN:=mf (ks:=[Sh.str]) (outs:=[Sh.bool]) (keep:=OV) (gas:=400) (n:=100000000) (e:=e0) (t:=t0) (i:=fun x=>Oz x.1) iw Yd (fun x=>Xs x.1) (QH _ _ _ _ _) (fun _=>by kernel_rfl) (fun _=>by kernel_rfl)

abbrev OZ:Nat→aJ:=fun j=>if j=2 then { slots:=[0,1,5] } else { }
inductive FM where
 | h2 (l0:LC) (s1:TS) (i5:Int)
abbrev NI:FM→Nat×St
 | .h2 l0 s1 i5=>(2,⟨tm 20 [(0,AV.sl zh l0),(1,AV.str s1),(5,AV.int .i64 i5)],[]⟩)
theorem zdo:zK nI.P 42 Tryz.f42 2:=bN (by kernel_rfl)
def Sf (x0:Sem zh.sl) (x1:TS):Tr (FM ⊕ aF):=
 Tr.to (FM.h2 x0 x1 0)
def Fm (l0:LC) (s1:TS) (i5:Int) (a0:Sem zh):Tr (FM ⊕ aF):=
 Tr.br (decide (i5 < (↑l0.length:Int)))
 (Tr.chk (zR i5 l0.length) (Tr.br (a0.1==s1) (Tr.re (AV.int .i64 i5) []) (Tr.to (FM.h2 l0 s1 (IntKind.i64.wrap (i5+1))))))
 (Tr.re (AV.int .i64 (-1)) [])
def JG (l0:LC) (s1:TS) (i5:Int):Tr (FM ⊕ aF):=
 let a0:=l0.getD i5.toNat (zi zh)
 Fm l0 s1 i5 a0
theorem zbO (x0:Sem zh.sl) (x1:TS):rn nI 0 OZ Tryz.f42 [zF zh.sl x0,zF Sh.str x1] []=(Sf x0 x1).map (lf Tryz.f42 NI):=by kernel_rfl
def JF:FM→Tr (FM ⊕ aF)
 | .h2 l0 s1 i5=>JG l0 s1 i5
theorem zdY:∀ s,run nI 0 OZ (Func.results Tryz.f42).toList 400 (zI Tryz.f42 (NI s).1) (NI s).2=(JF s).map (lf Tryz.f42 NI)
 | .h2 l0 s1 i5=>by kernel_rfl
def Ap (x0:Sem zh.sl) (x1:TS):Option (zC (List.map some [zf])):=aA [zf] JF 100000000 (Sf x0 x1)
def dc (x0:Sem zh.sl) (x1:TS):Bool:=(Ap x0 x1).isSome
def ef (x0:Sem zh.sl) (x1:TS):Sem zf:=(fun r:zC (List.map some [zf])=>r.1) ((Ap x0 x1).getD (cA [zf]))
def Zt:zT:=zN [zh.sl,Sh.str] [zf] (fun x=>dc x.1 x.2.1) fun x=>(ef x.1 x.2.1,())
theorem V8:FK 42 Zt:=mf (ks:=[zh.sl,Sh.str]) (outs:=[zf]) (keep:=OZ) (gas:=400) (n:=100000000) (e:=NI) (t:=JF) (i:=fun x=>Sf x.1 x.2.1) iw zdo (fun x=>zbO x.1 x.2.1) zdY (fun _=>by kernel_rfl) (fun _=>by kernel_rfl)

def Gj (g:Sem Sh.expr→Sem Sh.expr→Sem Sh.bool) (c:Sem Sh.expr→Sem Sh.expr→Bool):bS:=nI.add 77 (zN [Sh.expr,Sh.expr] [Sh.bool] (fun x=>c x.1 x.2.1) fun x=>(g x.1 x.2.1,()))
theorem L0 {g:Sem Sh.expr→Sem Sh.expr→Sem Sh.bool} {c:Sem Sh.expr→Sem Sh.expr→Bool} (hg:FK 77 (zN [Sh.expr,Sh.expr] [Sh.bool] (fun x=>c x.1 x.2.1) fun x=>(g x.1 x.2.1,()))):zy (Gj g c):=iw.add hg
abbrev O1:Nat→aJ:=fun j=>if j=4 then { slots:=[2,3,5] } else { }
inductive FO where
 | h4 (i5:Int) (z0:zo [CP.d Sh.expr]) (z1:zo [CP.d Sh.expr])
abbrev NK:FO→Nat×St
 | .h4 i5 z0 z1=>(4,⟨tm 53 [(2,AV.ptr 0 0),(3,AV.ptr 1 0),(5,AV.int .i64 i5)],[AO.box (ch [] [CP.d Sh.expr] z0),AO.box (ch [] [CP.d Sh.expr] z1)]⟩)
theorem zdJ (g:Sem Sh.expr→Sem Sh.expr→Sem Sh.bool) (c:Sem Sh.expr→Sem Sh.expr→Bool):zK (Gj g c).P 77 Tryz.f77 2:=bN (by kernel_rfl)
def yH (_:Sem Sh.expr→Sem Sh.expr→Sem Sh.bool) (_:Sem Sh.expr→Sem Sh.expr→Bool) (x0:Sem Sh.expr) (x1:Sem Sh.expr):Tr (FO ⊕ aF):=
 Tr.br
 (bif !ze.op x0==ze.op x1 then true
 else
  bif !((ze.v x0).1==(ze.v x1).1&&((ze.v x0).2.1==(ze.v x1).2.1&&((ze.v x0).2.2==(ze.v x1).2.2&&true))) then true
  else bif !ze.s x0==ze.s x1 then true else (↑(ze.l x0).length:Int) != (↑(ze.l x1).length:Int))
 (Tr.re (AV.kb false) []) (Tr.to (FO.h4 0 (x0,()) (x1,())))
def xn (g:Sem Sh.expr→Sem Sh.expr→Sem Sh.bool) (c:Sem Sh.expr→Sem Sh.expr→Bool) (i5:Int) (z0:zo [CP.d Sh.expr]) (z1:zo [CP.d Sh.expr]) (a0:Int) (a1:ze) (a2:ze):Tr (FO ⊕ aF):=
 Tr.br (decide (i5 < a0))
 (Tr.chk (zR i5 (ze.l z0.1).length)
  (Tr.chk (zR i5 (ze.l z1.1).length) (Tr.chk (c a1 a2) (Tr.br (!g a1 a2) (Tr.re (AV.kb false) []) (Tr.to (FO.h4 (IntKind.i64.wrap (i5+1)) z0 z1))))))
 (Tr.re (AV.kb true) [])
def Fr (g:Sem Sh.expr→Sem Sh.expr→Sem Sh.bool) (c:Sem Sh.expr→Sem Sh.expr→Bool) (i5:Int) (z0:zo [CP.d Sh.expr]) (z1:zo [CP.d Sh.expr]):Tr (FO ⊕ aF):=
 let a0:=(↑(ze.l z0.1).length:Int)
 let a1:=zm ((ze.l z0.1).getD i5.toNat (zi Sh.expr))
 let a2:=zm ((ze.l z1.1).getD i5.toNat (zi Sh.expr))
 xn g c i5 z0 z1 a0 a1 a2
theorem zbY (g:Sem Sh.expr→Sem Sh.expr→Sem Sh.bool) (c:Sem Sh.expr→Sem Sh.expr→Bool) (x0:Sem Sh.expr) (x1:Sem Sh.expr):rn (Gj g c) 0 O1 Tryz.f77 [zF Sh.expr x0,zF Sh.expr x1] []=(yH g c x0 x1).map (lf Tryz.f77 NK):=by kernel_rfl
def Fq (g:Sem Sh.expr→Sem Sh.expr→Sem Sh.bool) (c:Sem Sh.expr→Sem Sh.expr→Bool):FO→Tr (FO ⊕ aF)
 | .h4 i5 z0 z1=>Fr g c i5 z0 z1
theorem zd4 (g:Sem Sh.expr→Sem Sh.expr→Sem Sh.bool) (c:Sem Sh.expr→Sem Sh.expr→Bool):∀ s,run (Gj g c) 0 O1 (Func.results Tryz.f77).toList 400 (zI Tryz.f77 (NK s).1) (NK s).2=(Fq g c s).map (lf Tryz.f77 NK)
 | .h4 i5 z0 z1=>by kernel_rfl
def gg (o:Option (zC (List.map some [Sh.bool]))):Sem Sh.bool:=(fun r:zC (List.map some [Sh.bool])=>r.1) (o.getD (cA [Sh.bool]))
def EC (g:Sem Sh.expr→Sem Sh.expr→Sem Sh.bool) (c:Sem Sh.expr→Sem Sh.expr→Bool) (x0:Sem Sh.expr) (x1:Sem Sh.expr):Option (zC (List.map some [Sh.bool])):=aA [Sh.bool] (Fq g c) 3000000000 (yH g c x0 x1)
def bI:Nat→Sem Sh.expr→Sem Sh.expr→Option (zC (List.map some [Sh.bool]))
 | 0=>fun _ _=>none
 | n+1=>EC (fun x0 x1=>gg (bI n x0 x1)) fun x0 x1=>(bI n x0 x1).isSome
theorem XH:zK nI.P 77 Tryz.f77 2:=bN (by kernel_rfl)
theorem JT:∀ n,FK 77 (zN [Sh.expr,Sh.expr] [Sh.bool] (fun x=>(bI n x.1 x.2.1).isSome) fun x=>(gg (bI n x.1 x.2.1),()))
 | 0=>eW ⟨Tryz.f77,XH.1,XH.2.1,XH.2.2.1⟩ (fun _=>rfl)
 | n+1=>mf (E:=Gj (fun x0 x1=>gg (bI n x0 x1)) (fun x0 x1=>(bI n x0 x1).isSome)) (ks:=[Sh.expr,Sh.expr]) (outs:=[Sh.bool]) (keep:=O1) (gas:=400) (n:=3000000000) (e:=NK) (t:=Fq (fun x0 x1=>gg (bI n x0 x1)) (fun x0 x1=>(bI n x0 x1).isSome)) (i:=fun x=>yH (fun x0 x1=>gg (bI n x0 x1)) (fun x0 x1=>(bI n x0 x1).isSome) x.1 x.2.1) (L0 (JT n)) (zdJ _ _) (fun x=>zbY _ _ x.1 x.2.1) (zd4 _ _) (fun _=>by kernel_rfl) (fun _=>by kernel_rfl)
def wN (x0:Sem Sh.expr) (x1:Sem Sh.expr):Option (zC (List.map some [Sh.bool])):=bI 16 x0 x1
def eP (x0:Sem Sh.expr) (x1:Sem Sh.expr):Bool:=(wN x0 x1).isSome
def da (x0:Sem Sh.expr) (x1:Sem Sh.expr):Sem Sh.bool:=gg (wN x0 x1)
def ZO:zT:=zN [Sh.expr,Sh.expr] [Sh.bool] (fun x=>eP x.1 x.2.1) fun x=>(da x.1 x.2.1,())
theorem Ww:FK 77 ZO:=JT 16

def x4 (g:Sem Sh.expr→Sem zf) (c:Sem Sh.expr→Bool):bS:=nI.add 139 (zN [Sh.expr] [zf] (fun x=>c x.1) fun x=>(g x.1,()))
theorem Ip {g:Sem Sh.expr→Sem zf} {c:Sem Sh.expr→Bool} (hg:FK 139 (zN [Sh.expr] [zf] (fun x=>c x.1) fun x=>(g x.1,()))):zy (x4 g c):=iw.add hg
abbrev IT:Nat→aJ:=fun j=>if j=3 then { slots:=[1,3,4] } else { }
inductive rL where
 | h3 (i3:Int) (i4:Int) (z0:zo [CP.d Sh.expr])
abbrev Gg:rL→Nat×St
 | .h3 i3 i4 z0=>(3,⟨tm 21 [(1,AV.ptr 0 0),(3,AV.int .i64 i3),(4,AV.int .i64 i4)],[AO.box (ch [] [CP.d Sh.expr] z0)]⟩)
theorem Yc (g:Sem Sh.expr→Sem zf) (c:Sem Sh.expr→Bool):zK (x4 g c).P 139 Tryz.f139 1:=bN (by kernel_rfl)
def Kp (_:Sem Sh.expr→Sem zf) (_:Sem Sh.expr→Bool) (x0:Sem Sh.expr):Tr (rL ⊕ aF):=
 Tr.to (rL.h3 1 0 (x0,()))
def A5 (g:Sem Sh.expr→Sem zf) (c:Sem Sh.expr→Bool) (i3:Int) (i4:Int) (z0:zo [CP.d Sh.expr]) (a0:Int) (a1:ze):Tr (rL ⊕ aF):=
 Tr.br (decide (i4 < a0))
 (Tr.chk (zR i4 (ze.l z0.1).length) (Tr.chk (c a1) (Tr.to (rL.h3 (IntKind.i64.wrap (i3+g a1)) (IntKind.i64.wrap (i4+1)) z0))))
 (Tr.re (AV.int .i64 i3) [])
def Fh (g:Sem Sh.expr→Sem zf) (c:Sem Sh.expr→Bool) (i3:Int) (i4:Int) (z0:zo [CP.d Sh.expr]):Tr (rL ⊕ aF):=
 let a0:=(↑(ze.l z0.1).length:Int)
 let a1:=zm ((ze.l z0.1).getD i4.toNat (zi Sh.expr))
 A5 g c i3 i4 z0 a0 a1
theorem Xp (g:Sem Sh.expr→Sem zf) (c:Sem Sh.expr→Bool) (x0:Sem Sh.expr):rn (x4 g c) 0 IT Tryz.f139 [zF Sh.expr x0] []=(Kp g c x0).map (lf Tryz.f139 Gg):=by kernel_rfl
def A4 (g:Sem Sh.expr→Sem zf) (c:Sem Sh.expr→Bool):rL→Tr (rL ⊕ aF)
 | .h3 i3 i4 z0=>Fh g c i3 i4 z0
theorem Yh (g:Sem Sh.expr→Sem zf) (c:Sem Sh.expr→Bool):∀ s,run (x4 g c) 0 IT (Func.results Tryz.f139).toList 400 (zI Tryz.f139 (Gg s).1) (Gg s).2=(A4 g c s).map (lf Tryz.f139 Gg)
 | .h3 i3 i4 z0=>by kernel_rfl
def gR (o:Option (zC (List.map some [zf]))):Sem zf:=(fun r:zC (List.map some [zf])=>r.1) (o.getD (cA [zf]))
def Hs (g:Sem Sh.expr→Sem zf) (c:Sem Sh.expr→Bool) (x0:Sem Sh.expr):Option (zC (List.map some [zf])):=aA [zf] (A4 g c) 100000000 (Kp g c x0)
def bY:Nat→Sem Sh.expr→Option (zC (List.map some [zf]))
 | 0=>fun _=>none
 | n+1=>Hs (fun x0=>gR (bY n x0)) fun x0=>(bY n x0).isSome
theorem OM:zK nI.P 139 Tryz.f139 1:=bN (by kernel_rfl)
theorem FH:∀ n,FK 139 (zN [Sh.expr] [zf] (fun x=>(bY n x.1).isSome) fun x=>(gR (bY n x.1),()))
 | 0=>eW ⟨Tryz.f139,OM.1,OM.2.1,OM.2.2.1⟩ (fun _=>rfl)
 | n+1=>mf (E:=x4 (fun x0=>gR (bY n x0)) (fun x0=>(bY n x0).isSome)) (ks:=[Sh.expr]) (outs:=[zf]) (keep:=IT) (gas:=400) (n:=100000000) (e:=Gg) (t:=A4 (fun x0=>gR (bY n x0)) (fun x0=>(bY n x0).isSome)) (i:=fun x=>Kp (fun x0=>gR (bY n x0)) (fun x0=>(bY n x0).isSome) x.1) (Ip (FH n)) (Yc _ _) (fun x=>Xp _ _ x.1) (Yh _ _) (fun _=>by kernel_rfl) (fun _=>by kernel_rfl)
def Ao (x0:Sem Sh.expr):Option (zC (List.map some [zf])):=bY 16 x0
def sX (x0:Sem Sh.expr):Bool:=(Ao x0).isSome
def wQ (x0:Sem Sh.expr):Sem zf:=gR (Ao x0)
def Tz:zT:=zN [Sh.expr] [zf] (fun x=>sX x.1) fun x=>(wQ x.1,())
theorem Rf:FK 139 Tz:=FH 16

def DX:=nI.addL [(101,S5),(142,TA),(185,TN),(42,Zt),(77,ZO),(139,Tz)]
theorem jT:zy DX:=iw.addL <| fc QM <| fc Rg <| fc Rt <| fc V8 <| fc Ww <| fc Rf jp
end
noncomputable section

def Uz (x0:Sem (Sh.int IntKind.u8)):Tr (Empty ⊕ aF):=
 Tr.chk (fh x0&&bif gh x0 then true else jJ x0) (Tr.re (AV.bool (bif gh x0 then true else bif lS x0 then true else x0==95)) [])
def th (x0:Sem (Sh.int IntKind.u8)):=aA [Sh.bool] t0 100000000 (Uz x0)
def pE (x0:Sem (Sh.int IntKind.u8)):=(th x0).isSome
def uV (x0:Sem (Sh.int IntKind.u8)):=o1 (th x0)
def Tv:=FT [Sh.int IntKind.u8] [Sh.bool] fun x=>th x.1
theorem Rb:FK 135 Tv:=jT.T1 (f:=Tryz.f135) (keep:=k0) (e:=e0)

abbrev XT:=qm [(3,[0,3,4])]
inductive BU where
 | h3 (s0:TS) (l3:LS) (i4:Int)
abbrev zbv:BU→Nat×St
 | .h3 s0 l3 i4=>(3,⟨tm 18 [(0,AV.str s0),(3,AV.sl Sh.str l3),(4,AV.int .i64 i4)],[]⟩)
def Oy (x0:TS):Tr (BU ⊕ aF):=
 Tr.to
 (BU.h3 x0
  [[65,78,68],[79,82],[78,79,84],[73,83],[78,85,76,76],[84,82,85,69],[70,65,76,83,69],[67,82,69,65,84,69],[84,65,66,76,69],[75,69,89],[85,78,73,81,85,69],[82,69,70,69,82,69,78,67,69,83],[67,72,69,67,75],[68,82,79,80],[73,78,83,69,82,84],
  [73,78,84,79],[86,65,76,85,69,83],[85,80,68,65,84,69],[83,69,84],[87,72,69,82,69],[68,69,76,69,84,69],[70,82,79,77],[83,69,76,69,67,84],[71,82,65,78,84],[82,69,86,79,75,69],[82,69,65,68],[87,82,73,84,69],[79,78],[84,79],
  [77,73,71,82,65,84,69],[67,79,80,89],[74,79,73,78],[71,82,79,85,80],[66,89],[83,85,77],[73,78,84],[84,69,88,84],[66,79,79,76]]
  0)
def A3:BU→Tr (BU ⊕ aF)
 | .h3 s0 l3 i4=>
  Tr.br (decide (i4 < (↑l3.length:Int)))
  (Tr.chk (zR i4 l3.length) (Tr.br (l3.getD i4.toNat (zi Sh.str)==s0) (Tr.re (AV.kb true) []) (Tr.to (BU.h3 s0 l3 (IntKind.i64.wrap (i4+1))))))
  (Tr.re (AV.kb false) [])
def EW (x0:TS):=aA [Sh.bool] A3 100000000 (Oy x0)
def AB (x0:TS):=(EW x0).isSome
def HB (x0:TS):=o1 (EW x0)
def Tt:=FT [Sh.str] [Sh.bool] fun x=>EW x.1
theorem Q9:FK 133 Tt:=jT.T1 (f:=Tryz.f133) (keep:=XT) (e:=zbv)

abbrev ON:Nat→aJ:=fun _=>{ }
theorem X4:zK DX.P 105 Tryz.f105 2:=bN (by kernel_rfl)
def Oo (y:zo aG) (x0:TS):Tr (Empty ⊕ aF):=
 let a0:=(y.1,y.2.1,y.2.2.1,())
 let a1:=HG a0 x0
 Tr.chk (E1 a0 x0)
 (Tr.br a1.1 (Tr.re (AV.kb true) (ay aG (a1.2.1,IntKind.i64.wrap (a1.2.2.1+1),a1.2.2.2)))
  (Tr.re (AV.kb false) (ay aG a1.2)))
theorem Xe (y:zo aG) (x0:TS):rn DX 1 ON Tryz.f105 [AV.ptr 0 0,zF Sh.str x0] (ay aG y)=(Oo y x0).map (lf Tryz.f105 e0):=by kernel_rfl
def K7 (y:zo aG) (x0:TS):Option (zC (List.map some [Sh.bool])×zo aG):=j7 [Sh.bool] aG t0 100000000 (Oo y x0)
def dv (y:zo aG) (x0:TS):Bool:=(K7 y x0).isSome
def eK (y:zo aG) (x0:TS):(Sem Sh.bool)×zo aG:=(fun r:zC (List.map some [Sh.bool])×zo aG=>(r.1.1,r.2)) ((K7 y x0).getD (cA [Sh.bool],fH aG))
def S9:zT:=qN aG [Sh.str] [Sh.bool] aG (fun y x=>dv y x.1) fun y x=>(((eK y x.1).1,()),(eK y x.1).2)
theorem QQ:FK 105 S9:=jL (ps:=aG) (ks:=[Sh.str]) (outs:=[Sh.bool]) (keep:=ON) (gas:=400) (n:=100000000) (e:=e0) (t:=t0) (i:=fun y x=>Oo y x.1) jT X4 (fun y x=>Xe y x.1) (QH _ _ _ _ _) (fun _ _=>by kernel_rfl) (fun _ _=>by kernel_rfl)

abbrev zcO:=qm [(6,[2,3,5]),(11,[2,3,6]),(16,[2,3,7]),(21,[2,3,8]),(26,[2,3,9]),(31,[2,3,10])]
inductive pU where
 | h6 (i5:Int) (z0:zo nu) (z1:zo nu)
 | h11 (i6:Int) (z0:zo nu) (z1:zo nu)
 | h16 (i7:Int) (z0:zo nu) (z1:zo nu)
 | h21 (i8:Int) (z0:zo nu) (z1:zo nu)
 | h26 (i9:Int) (z0:zo nu) (z1:zo nu)
 | h31 (i10:Int) (z0:zo nu) (z1:zo nu)
abbrev ze0:pU→Nat×St
 | .h6 i5 z0 z1=>(6,⟨tm 238 [(2,AV.ptr 0 0),(3,AV.ptr 1 0),(5,AV.int .i64 i5)],[AO.box (ch [] nu z0),AO.box (ch [] nu z1)]⟩)
 | .h11 i6 z0 z1=>(11,⟨tm 238 [(2,AV.ptr 0 0),(3,AV.ptr 1 0),(6,AV.int .i64 i6)],[AO.box (ch [] nu z0),AO.box (ch [] nu z1)]⟩)
 | .h16 i7 z0 z1=>(16,⟨tm 238 [(2,AV.ptr 0 0),(3,AV.ptr 1 0),(7,AV.int .i64 i7)],[AO.box (ch [] nu z0),AO.box (ch [] nu z1)]⟩)
 | .h21 i8 z0 z1=>(21,⟨tm 238 [(2,AV.ptr 0 0),(3,AV.ptr 1 0),(8,AV.int .i64 i8)],[AO.box (ch [] nu z0),AO.box (ch [] nu z1)]⟩)
 | .h26 i9 z0 z1=>(26,⟨tm 238 [(2,AV.ptr 0 0),(3,AV.ptr 1 0),(9,AV.int .i64 i9)],[AO.box (ch [] nu z0),AO.box (ch [] nu z1)]⟩)
 | .h31 i10 z0 z1=>(31,⟨tm 238 [(2,AV.ptr 0 0),(3,AV.ptr 1 0),(10,AV.int .i64 i10)],[AO.box (ch [] nu z0),AO.box (ch [] nu z1)]⟩)
def Sk (x0:Sem zk) (x1:Sem zk):Tr (pU ⊕ aF):=
 let a0 := !x0.1==x1.1
 let a1 := !x0.2.1==x1.2.1
 let a2 := !x0.2.2.1==x1.2.2.1
 let a3 := !x0.2.2.2.2.2.1==x1.2.2.2.2.2.1
 let a4 := !x0.2.2.2.2.2.2.2.2.2.2.2.2==x1.2.2.2.2.2.2.2.2.2.2.2.2
 let a5:=zm x0.2.2.2.2.2.2.2.2.1
 let a6:=zm x1.2.2.2.2.2.2.2.2.1
 let a7 := !da a5 a6
 let a8:=zm x0.2.2.2.2.2.2.2.2.2.2.2.1
 let a9:=zm x1.2.2.2.2.2.2.2.2.2.2.2.1
 Tr.chk
 (bif a0 then true
 else bif a1 then true else bif a2 then true else bif a3 then true else bif a4 then true else eP a5 a6&&bif a7 then true else eP a8 a9)
 (Tr.br (bif a0 then true else bif a1 then true else bif a2 then true else bif a3 then true else bif a4 then true else bif a7 then true else !da a8 a9)
  (Tr.re (AV.kb false) [])
  (Tr.br (bif (↑(length x0.2.2.2.1):Int) != (↑(length x1.2.2.2.1):Int) then true else bif (↑(length x0.2.2.2.2.1):Int) != (↑(length x1.2.2.2.2.1):Int) then true else bif (↑(length x0.2.2.2.2.2.2.1):Int) != (↑(length x1.2.2.2.2.2.2.1):Int) then true else bif (↑(length x0.2.2.2.2.2.2.2.1):Int) != (↑(length x1.2.2.2.2.2.2.2.1):Int) then true
  else bif (↑(length x0.2.2.2.2.2.2.2.2.2.1):Int) != (↑(length x1.2.2.2.2.2.2.2.2.2.1):Int) then true else (↑(length x0.2.2.2.2.2.2.2.2.2.2.1):Int) != (↑(length x1.2.2.2.2.2.2.2.2.2.2.1):Int)) (Tr.re (AV.kb false) []) (Tr.to (pU.h6 0 (x0,()) (x1,())))))
def rI:pU→Tr (pU ⊕ aF)
 | .h6 i5 z0 z1=>
  let a0:=(↑(length z0.1.2.2.2.1):Int)
  Tr.br (decide (i5 < a0))
  (Tr.chk (zR i5 (length z0.1.2.2.2.1))
   (Tr.chk (zR i5 (length z1.1.2.2.2.1)) (Tr.br (!getD z0.1.2.2.2.1 i5.toNat (zi Sh.str)==getD z1.1.2.2.2.1 i5.toNat (zi Sh.str)) (Tr.re (AV.kb false) []) (Tr.to (pU.h6 (IntKind.i64.wrap (i5+1)) z0 z1)))))
  (Tr.to (pU.h11 0 z0 z1))
 | .h11 i6 z0 z1=>
  let a0:=(↑(length z0.1.2.2.2.2.1):Int)
  let a1:=getD z0.1.2.2.2.2.1 i6.toNat (zi zh)
  let a2:=getD z1.1.2.2.2.2.1 i6.toNat (zi zh)
  Tr.br (decide (i6 < a0))
  (Tr.chk (zR i6 (length z0.1.2.2.2.2.1))
   (Tr.chk (zR i6 (length z1.1.2.2.2.2.1)) (Tr.br (!(a1.1==a2.1&&(a1.2.1==a2.2.1&&(a1.2.2==a2.2.2&&true)))) (Tr.re (AV.kb false) []) (Tr.to (pU.h11 (IntKind.i64.wrap (i6+1)) z0 z1)))))
  (Tr.to (pU.h16 0 z0 z1))
 | .h16 i7 z0 z1=>
  let a0:=(↑(length z0.1.2.2.2.2.2.2.1):Int)
  Tr.br (decide (i7 < a0))
  (Tr.chk (zR i7 (length z0.1.2.2.2.2.2.2.1))
   (Tr.chk (zR i7 (length z1.1.2.2.2.2.2.2.1)) (Tr.br (!getD z0.1.2.2.2.2.2.2.1 i7.toNat (zi Sh.str)==getD z1.1.2.2.2.2.2.2.1 i7.toNat (zi Sh.str)) (Tr.re (AV.kb false) []) (Tr.to (pU.h16 (IntKind.i64.wrap (i7+1)) z0 z1)))))
  (Tr.to (pU.h21 0 z0 z1))
 | .h21 i8 z0 z1=>
  let a0:=(↑(length z0.1.2.2.2.2.2.2.2.1):Int)
  let a1:=getD z0.1.2.2.2.2.2.2.2.1 i8.toNat (zi ib)
  let a2:=getD z1.1.2.2.2.2.2.2.2.1 i8.toNat (zi ib)
  Tr.br (decide (i8 < a0))
  (Tr.chk (zR i8 (length z0.1.2.2.2.2.2.2.2.1))
   (Tr.chk (zR i8 (length z1.1.2.2.2.2.2.2.2.1)) (Tr.br (!(a1.1==a2.1&&(a1.2==a2.2&&true))) (Tr.re (AV.kb false) []) (Tr.to (pU.h21 (IntKind.i64.wrap (i8+1)) z0 z1)))))
  (Tr.to (pU.h26 0 z0 z1))
 | .h26 i9 z0 z1=>
  let a0:=(↑(length z0.1.2.2.2.2.2.2.2.2.2.1):Int)
  let a1:=getD z0.1.2.2.2.2.2.2.2.2.2.1 i9.toNat (zi zg)
  let a2:=getD z1.1.2.2.2.2.2.2.2.2.2.1 i9.toNat (zi zg)
  Tr.br (decide (i9 < a0))
  (Tr.chk (zR i9 (length z0.1.2.2.2.2.2.2.2.2.2.1))
   (Tr.chk (zR i9 (length z1.1.2.2.2.2.2.2.2.2.2.1)) (Tr.br (!(a1.1==a2.1&&(a1.2.1==a2.2.1&&(a1.2.2==a2.2.2&&true)))) (Tr.re (AV.kb false) []) (Tr.to (pU.h26 (IntKind.i64.wrap (i9+1)) z0 z1)))))
  (Tr.to (pU.h31 0 z0 z1))
 | .h31 i10 z0 z1=>
  let a0:=(↑(length z0.1.2.2.2.2.2.2.2.2.2.2.1):Int)
  let a1:=zR i10 (length z0.1.2.2.2.2.2.2.2.2.2.2.1)
  let a2:=zR i10 (length z1.1.2.2.2.2.2.2.2.2.2.2.1)
  let a3:=getD z0.1.2.2.2.2.2.2.2.2.2.2.1 i10.toNat (zi gy)
  let a4:=getD z1.1.2.2.2.2.2.2.2.2.2.2.1 i10.toNat (zi gy)
  let a5 := !a3.1==a4.1
  let a6:=zm a3.2
  let a7:=zm a4.2
  Tr.br (decide (i10 < a0))
  (Tr.chk (a1&&(a2&&bif a5 then true else a1&&(a2&&eP a6 a7)))
   (Tr.br (bif a5 then true else !da a6 a7) (Tr.re (AV.kb false) []) (Tr.to (pU.h31 (IntKind.i64.wrap (i10+1)) z0 z1))))
  (Tr.re (AV.kb true) [])
def pG (x0:Sem zk) (x1:Sem zk):=aA [Sh.bool] rI 100000000 (Sk x0 x1)
def wW (x0:Sem zk) (x1:Sem zk):=(pG x0 x1).isSome
def eJ (x0:Sem zk) (x1:Sem zk):=o1 (pG x0 x1)
def ZR:=FT [zk,zk] [Sh.bool] fun x=>pG x.1 x.2.1
theorem Wz:FK 80 ZR:=jT.T1 (f:=Tryz.f80) (keep:=zcO) (e:=ze0)

def Cz:=DX.addL [(135,Tv),(133,Tt),(105,S9),(80,ZR)]
theorem oW:zy Cz:=jT.addL <| fc Rb <| fc Q9 <| fc QQ <| fc Wz jp
end
end Cad
