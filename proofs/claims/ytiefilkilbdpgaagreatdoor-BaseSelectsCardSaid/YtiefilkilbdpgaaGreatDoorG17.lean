/- Copies of tables with rows: what they answer. Rows: sorted. Bases: a table as it would be. Bases: insert. schema.copied is its argument, of what is not too deep (its other name). A call that only reads a variable to which a pointer leads: the variable is lent. The table of a statement: places. The table of a statement. Bases: create. Bases: a statement is done. The chapter's examples. The law BaseSelects. Few of anything: always an answer, and a short one. The law BaseSelects holds. The law BaseSelects answers true. From what is handed in to plain data. From a contract over plain data to a law's statement. The law BaseSelects answers true: as a call. What the package variables hold when a law begins. Laws of any parameters: the contract. -/
import Derived.Test.YtiefilkilbdpgaaGreatDoorG16
import Derived.Test.YtiefilkilbdpgaaGreatDoorG11
import Derived.Test.YtiefilkilbdpgaaGreatDoorG14
import Derived.Test.YtiefilkilbdpgaaGreatDoorG13
import Derived.Test.YtiefilkilbdpgaaGreatDoorG09
import Derived.Carry
import Derived.ChangeSame
import Derived.RowKit3
import Derived.WideKeyArgs
import Derived.Test.YtiefilkilbdpgaaGreatDoorG06
import Derived.Test.YtiefilkilbdpgaaGreatDoorRows
import Derived.OpenShut
import Derived.ProofKit
import Derived.Test.YtiefilkilbdpgaaGreatDoorG12
namespace Cad
open Go Go.Proofs
open Int (toNat)
open List (length)
set_option maxHeartbeats 4000000

def Su (ks:List Sh) (c:zw (ks.map some)→Bool) (g:zw (ks.map some)→au):b7 (ks.map some):=fun x h=>match h with
 | []=>.chk (c x) (.ok (g x))
 | _=>.err

theorem Qb {P:Program} {gl:Nat→AV} {σ:Type} {E:ba} {k:FuncId} {f:Func} {ks:List Sh} {keep:Nat→zS} {gas n:Nat} {e:σ→Nat×St} {t:σ→Tr (σ ⊕ au)} {i:zw (ks.map some)→Tr (σ ⊕ au)} {c:zw (ks.map some)→Bool} {g:zw (ks.map some)→au}
  (hE:zm E) (hf:zz E.P k f ks.length) (hgo:∀ x,run E 0 keep f.results.toList gas (ah f) (zU f.ntmps (fm (ks.map some) x) [])=(i x).map (lf f e))
  (hon:∀ s,run E 0 keep f.results.toList gas (zx f (e s).1) (e s).2=(t s).map (lf f e))
  (hg:∀ x,c x=true→cM t n (i x)=some (g x)) (qp:E.P=P:=by rfl) (qg:E.gl=gl:=by rfl):kx P gl k (zP (ks.map some) (Su ks c g)):=by
 subst qp qg
 refine bb (by simpa using hf) fun x h0 res hx C hC=>?_
 unfold Su at hx
 split at hx
 ·simp only [Tr.val] at hx
  split at hx
  ·rename_i hc
   simp only [zZ] at hx
   subst hx
   exact jm (n0:=0) hE (by simpa using hf) (fun id _=>hC id (aZ _)) (n+1) _ _ _ (by rw [hZ hon (hgo x)]; exact hg x hc) rfl
  ·cases hx
 ·simp at hx

def BP (x:Sem zh):au:=(AV.agg [AV.str x.1.1,AV.vec 0,AV.int .i64 x.1.2.2.1,AV.vec 1,AV.vec 2,AV.str (ze.op x.1.2.2.2.2.2),AV.int .i64 (ze.v x.1.2.2.2.2.2).1,AV.int .i64 (ze.v x.1.2.2.2.2.2).2.1,AV.str (ze.v x.1.2.2.2.2.2).2.2,AV.str (ze.s x.1.2.2.2.2.2),AV.sl Sh.expr (ze.l x.1.2.2.2.2.2),AV.vec 3],
 [AO.vec zi x.1.2.1,AO.vec zg x.1.2.2.2.1,AO.vec zr x.1.2.2.2.2.1,AO.vec zf.sl x.2])

def La (x:Sem zh):Bool:=decide (length x.1.2.1≤1000000)&&decide (length x.1.2.2.2.1≤1000000)&&decide (length x.1.2.2.2.2.1≤1000000)&&nD 16 x.1.2.2.2.2.2&&decide (length x.2≤1000000)&&List.all x.2 (fun r=>decide (length r≤1000000))

theorem Jk {α:Type} (l:List α) (d:α) (i:Nat) (h:i < l.length):l.set i (l.getD i d)=l:=by
 rw [aJ,zJ h,dU]
 exact List.set_getElem_self h

theorem Lb (x:Sem zh) (hc:La x=true):cM FH 100000000 (LB x)=some (BP x):=by
 unfold La at hc
 simp only [aC,ae,cH] at hc
 obtain ⟨⟨⟨⟨⟨h1,h2⟩,h3⟩,h4⟩,h5⟩,h6⟩:=hc
 have hl:=jo (t:=FH) (β:=Unit) (length x.2) (fun _ i=>.h7 (length x.2:Int) (i:Int) x.1.1 x.1.2.2.1 (ze.op x.1.2.2.2.2.2) (ze.v x.1.2.2.2.2.2).1 (ze.v x.1.2.2.2.2.2).2.1 (ze.v x.1.2.2.2.2.2).2.2
   (ze.s x.1.2.2.2.2.2) (ze.l x.1.2.2.2.2.2) [] 0 [] 0 0 [] [] x.1.2.1 x.1.2.2.2.1 x.1.2.2.2.2.1 x.2) (fun _ _=>True) (fun r=>r=BP x) 1 (by
   intro b i hi _
   have hrow:length (List.getD x.2 i (zj zf.sl))≤1000000:=h6 _ (by rw [aJ,zJ hi,dU]; exact cI hi)
   simp only [FH,Tr.val,aH hi,zN hi,if_true,dp,dc hi,Jk _ _ _ hi]
   rw [zG i (by unfold zD; omega),if_pos (dc (by omega))]
   exact Or.inl ⟨(),trivial,rfl⟩) (by
   intro b n _ hn
   obtain ⟨n,rfl⟩:∃ k,n=k+1:=⟨n - 1,by omega⟩
   rw [jn]
   simp only [FH,Tr.val,ap]
   exact ⟨_,rfl,rfl⟩) (length x.2) 0 () 100000000 rfl (aZ _) trivial (by omega)
 obtain ⟨r,hr,rfl⟩:=hl
 unfold cM
 have e1:decide (length x.1.2.1≤1073741824)=true:=dc (by omega)
 have e2:decide (length x.1.2.2.2.1≤1073741824)=true:=dc (by omega)
 have e3:decide (length x.1.2.2.2.2.1≤1073741824)=true:=dc (by omega)
 have e5:decide (length x.2≤1073741824)=true:=dc (by omega)
 simp only [LB,Tr.val,e1,e2,e3,e5,zt,h4,if_true]
 exact hr

noncomputable def TZ:zB:=zP ([zh].map some) (Su [zh] (fun x=>La x.1) (fun x=>BP x.1))
theorem PJ:FK 131 TZ:=Qb (ks:=[zh]) (keep:=HW) (gas:=400) (n:=100000000) (e:=Gx) (t:=FH) (i:=fun x=>LB x.1) pg Yz (fun x=>WQ x.1) Y6 (fun x hc=>Lb x.1 hc)
noncomputable section
def GS:=GR.add 131 TZ
theorem sI:zm GS:=BZ.add PJ

def zbt (x0:Sem zh):Tr (Empty ⊕ au):=
 let a0:=(x0.1.1,x0.1.2.1,x0.1.2.2.1,x0.1.2.2.2.1,x0.1.2.2.2.2.1,zC x0.1.2.2.2.2.2)
 let a1:=yr x0.2 (-1)
 let a2:=yr x0.2 x0.1.2.2.1
 Tr.chk (La (a0,x0.2))
 (Tr.br (!j3 a0)
  (Tr.chk a1.isSome (Tr.re (AV.agg [AV.str x0.1.1,AV.vec 0,AV.int .i64 x0.1.2.2.1,AV.vec 1,AV.vec 2,AV.str (ze.op x0.1.2.2.2.2.2),AV.int .i64 (ze.v x0.1.2.2.2.2.2).1,AV.int .i64 (ze.v x0.1.2.2.2.2.2).2.1,AV.str (ze.v x0.1.2.2.2.2.2).2.2,AV.str (ze.s x0.1.2.2.2.2.2),AV.sl Sh.expr (ze.l x0.1.2.2.2.2.2),AV.vec 3]) [AO.vec zi x0.1.2.1,AO.vec zg x0.1.2.2.2.1,
  AO.vec zr x0.1.2.2.2.2.1,AO.vec zf.sl (a1.getD [])]))
  (Tr.chk a2.isSome (Tr.re (AV.agg [AV.str x0.1.1,AV.vec 0,AV.int .i64 x0.1.2.2.1,AV.vec 1,AV.vec 2,AV.str (ze.op x0.1.2.2.2.2.2),AV.int .i64 (ze.v x0.1.2.2.2.2.2).1,AV.int .i64 (ze.v x0.1.2.2.2.2.2).2.1,AV.str (ze.v x0.1.2.2.2.2.2).2.2,AV.str (ze.s x0.1.2.2.2.2.2),AV.sl Sh.expr (ze.l x0.1.2.2.2.2.2),AV.vec 3]) [AO.vec zi x0.1.2.1,AO.vec zg x0.1.2.2.2.1,
  AO.vec zr x0.1.2.2.2.2.1,AO.vec zf.sl (a2.getD [])])))
def CQ (x0:Sem zh):=aq [zh] t0 100000000 (zbt x0)
def Ss (x0:Sem zh):=(CQ x0).isSome
def Zl (x0:Sem zh):=o1 (CQ x0)
def Ug:=FT [zh] [zh] fun x=>CQ x.1
theorem PZ:FK 81 Ug:=sI.T1 (f:=Tryz.f81) (keep:=k0) (e:=e0)

def GT:=GS.add 81 Ug
theorem sJ:zm GT:=sI.add PZ
end

noncomputable def zbm (x0:Sem aR) (x1:Sem zh) (x2:Sem zg):Tr (Empty ⊕ au):=
 let a0:=((x1.1.1,x1.1.2.1,x1.1.2.2.1,x1.1.2.2.2.1,x1.1.2.2.2.2.1,zC x1.1.2.2.2.2.2),x1.2)
 let a1:=Zl a0
 let a2:=((a1.1.1,a1.1.2.1,a1.1.2.2.1,a1.1.2.2.2.1,a1.1.2.2.2.2.1,zC a1.1.2.2.2.2.2),a1.2)
 let a3:=x8 a2
 let a4:=cy a3
 let a5:=mq x0.1 a2
 let a6:=vD a5 x2
 Tr.chk (Ss a0)
 (Tr.chk (qU a2)
  (Tr.br (a3 != 0) (Tr.chk (rY a3) (Tr.re (AV.tup [AV.sl zh a4.1,AV.agg [AV.int .i64 a4.2.1,AV.int .i64 a4.2.2.1,AV.sl zf.sl a4.2.2.2]]) [])) (Tr.chk (mN x0.1 a2) (Tr.chk (oV a5 x2) (Tr.re (AV.tup [AV.sl zh a6.1,AV.agg [AV.int .i64 a6.2.1,AV.int .i64 a6.2.2.1,AV.sl zf.sl a6.2.2.2]]) [])))))
noncomputable def rU (x0:Sem aR) (x1:Sem zh) (x2:Sem zg):=aq [zh.sl,eI] t0 100000000 (zbm x0 x1 x2)
noncomputable def Gn (x0:Sem aR) (x1:Sem zh) (x2:Sem zg):=(rU x0 x1 x2).isSome
noncomputable def Le (x0:Sem aR) (x1:Sem zh) (x2:Sem zg):=o2 (rU x0 x1 x2)
noncomputable def TR:=FT [aR,zh,zg] [zh.sl,eI] fun x=>rU x.1 x.2.1 x.2.2.1
theorem PB:FK 45 TR:=sJ.T1 (f:=Tryz.f45) (keep:=k0) (e:=e0)

noncomputable def GU:=GT.add 45 TR
theorem sK:zm GU:=sJ.add PB

noncomputable def zbg (x0:Sem aR):Tr (Empty ⊕ au):=
 let a0:=aE x0.1 x0.2.2.1
 let a1:=List.getD x0.1 (toNat a0) (zj zh)
 let a2:=[x0.2.2.2.2.2.2.2.2.2.2.1]
 let a3:=(x0.1,x0.2.1,x0.2.2.1,x0.2.2.2.1,x0.2.2.2.2.1,x0.2.2.2.2.2.1,x0.2.2.2.2.2.2.1,x0.2.2.2.2.2.2.2.1,x0.2.2.2.2.2.2.2.2.1,zC x0.2.2.2.2.2.2.2.2.2.1,x0.2.2.2.2.2.2.2.2.2.2.1,x0.2.2.2.2.2.2.2.2.2.2.2.1,zC x0.2.2.2.2.2.2.2.2.2.2.2.2.1,x0.2.2.2.2.2.2.2.2.2.2.2.2.2)
 let a4:=((a1.1.1,a1.1.2.1,a1.1.2.2.1,a1.1.2.2.2.1,a1.1.2.2.2.2.1,zC a1.1.2.2.2.2.2),a1.2++a2)
 let a5:=Le a3 a4 1
 Tr.br (decide (a0 < 0))
 (Tr.chk true
  (Tr.re (AV.tup [AV.sl zh (cy 6).1,AV.agg [AV.int .i64 (cy 6).2.1,AV.int .i64 (cy 6).2.2.1,AV.sl zf.sl (cy 6).2.2.2]]) []))
 (Tr.chk (zH a0 (length x0.1))
  (Tr.chk (decide (length a1.2≤1073741824)) (Tr.chk (decide (length x0.2.2.2.2.2.2.2.2.2.2.1≤1073741824)) (Tr.chk (decide (length a1.2+a2.length≤1073741824)) (Tr.chk (Gn a3 a4 1) (Tr.re (AV.tup [AV.sl zh a5.1,AV.agg [AV.int .i64 a5.2.1,AV.int .i64 a5.2.2.1,AV.sl zf.sl a5.2.2.2]]) []))))))
noncomputable def rZ (x0:Sem aR):=aq [zh.sl,eI] t0 100000000 (zbg x0)
noncomputable def Gq (x0:Sem aR):=(rZ x0).isSome
noncomputable def Lg (x0:Sem aR):=o2 (rZ x0)
noncomputable def Tx:=FT [aR] [zh.sl,eI] fun x=>rZ x.1
theorem Pe:FK 19 Tx:=sK.T1 (f:=Tryz.f19) (keep:=k0) (e:=e0)

noncomputable def GV:=GU.add 19 Tx
theorem B1:zm GV:=sK.add Pe

def yI (c:ze→Bool):zB:=zA [.expr] [.expr] (fun x=>c x.1) fun x=>(x.1,())
noncomputable def vE (c:ze→Bool):ba:=Ll.add 72 (yI c)
theorem oZ {c:ze→Bool} (hg:FK 72 (yI c)):zm (vE c):=sA.add hg
abbrev N5:Nat→zS:=fun j=>if j=3 then { slots:=[1,2,10,11] } else { }
abbrev yh (i10:Int) (i11:Int) (ja0:zn) (ja1:Int) (ja2:Int) (ja3:zn) (ja4:zn) (lh_2:List (Sem Sh.expr)):St:={
 tmps:=
  (tm 26 [(1,AV.ptr 0 0),(2,AV.ptr 1 0),(10,AV.int .i64 i10),(11,AV.int .i64 i11)]),
 heap:=
  [AO.box [AV.str ja0,AV.int .i64 ja1,AV.int .i64 ja2,AV.str ja3,AV.str ja4,AV.vec 2],
   AO.box [AV.str [],AV.int .i64 0,AV.int .i64 0,AV.str [],AV.str [],AV.nils],AO.vec Sh.expr lh_2] }
theorem tB (c:ze→Bool):zz (vE c).P 72 Tryz.f72 1:=aG (by kernel_rfl)
theorem WJ (c:ze→Bool) (op:zn) (v:V) (s:zn) (l:List ze):rn (vE c) 0 N5 Tryz.f72 [zy Sh.expr (ze.mk op v s l)] []=
 Tr.chk (decide (l.length≤1073741824)) (Tr.ok (zp.head 3 (zx Tryz.f72 3) (yh (↑l.length:Int) 0 op v.1 v.2.1 v.2.2 s l))):=by kernel_rfl
theorem DY (c:ze→Bool) (i10:Int) (i11:Int) (ja0:zn) (ja1:Int) (ja2:Int) (ja3:zn) (ja4:zn) (lh_2:List (Sem Sh.expr)):rh (vE c) 0 N5 Tryz.f72 3 (yh i10 i11 ja0 ja1 ja2 ja3 ja4 lh_2)=
 Tr.br (decide (i11 < i10))
 (Tr.chk (zH i11 lh_2.length)
  (Tr.chk (decide (i11.toNat < lh_2.length))
   (Tr.chk (c (zC (lh_2.getD i11.toNat (zj Sh.expr))))
    (Tr.chk (zH i11 lh_2.length)
     (Tr.chk (decide (i11.toNat < lh_2.length))
      (Tr.ok
       (zp.head 3 (zx Tryz.f72 3)
        (yh i10 (IntKind.i64.wrap (i11+1)) ja0 ja1 ja2 ja3 ja4
         (lh_2.set i11.toNat
          (zC (lh_2.getD i11.toNat (zj Sh.expr))))))))))))
 (Tr.ok
  (zp.ret (AV.agg [AV.str ja0,AV.int .i64 ja1,AV.int .i64 ja2,AV.str ja3,AV.str ja4,AV.vec 0]) [AO.vec Sh.expr lh_2])):=by kernel_rfl

theorem V4 {c:ze→Bool} (hg:FK 72 (yI c)) {C:bW} (hC:∀ id,C.ρ0 id=none) (op:zn) (v:V) (s:zn) (l:List ze) (hl:l.length≤1073741824) (hcl:l.all c=true):
  ∀ (k i:Nat),l.length - i=k→i≤l.length→Reach (vE c) C 72 (zx Tryz.f72 3) (yh l.length i op v.1 v.2.1 v.2.2 s l) (fun r h=>zX h [.expr] r=some (ze.mk op v s l,())):=by
 intro k
 induction k with
 | zero=>
  intro i hk hi
  obtain rfl:i=l.length:=by omega
  refine zk (n0:=0) (oZ hg) (tB c) (fun id _=>hC id) (DY c _ _ _ _ _ _ _ _) ?_
  simp only [ap,Tr.val_brF]
  rfl
 | succ k IH=>
  intro i hk hi
  have hlt:i < l.length:=by omega
  refine zk (n0:=0) (oZ hg) (tB c) (fun id _=>hC id) (DY c _ _ _ _ _ _ _ _) ?_
  have h1:c l[i]=true:=cH.1 hcl _ (cI hlt)
  have h2:decide ((i:Int).toNat < l.length)=true:=by simpa using hlt
  have h3:l.set (i:Int).toNat l[i]=l:=by simp
  simp only [aH hlt,zN hlt,ag l _ hlt,ze.eta,Tr.val_brT,Tr.val_chkT,h1,h2,h3,zG i (by unfold zD; omega)]
  exact IH (i+1) (by omega) (by omega)

theorem wQ:∀ n,FK 72 (yI (nD n))
 | 0=>cO ⟨Tryz.f72,(tB (fun _=>false)).1,(tB (fun _=>false)).2.1,(tB (fun _=>false)).2.2.1⟩ (fun _=>rfl)
 | n+1=>by
  refine zL (E:=vE (nD n)) (tB _) fun x hc C hC=>?_
  obtain ⟨⟨op,v,s,l⟩,u⟩:=x
  have hc:(decide (l.length≤1073741824)&&l.all (nD n))=true:=hc
  simp only [aC,ae] at hc
  refine zk (n0:=0) (oZ (wQ n)) (tB _) (fun id _=>hC id) (WJ _ op v s l) ?_
  refine cu (by simpa using hc.1) ?_
  exact V4 (wQ n) hC op v s l hc.1 hc.2 _ 0 rfl (aZ _)
def TH:zB:=yI (nD 16)
theorem Pq:FK 72 TH:=wQ 16
open Go

def yo:AO→Bool
 | .box cs=>cs.all jX
 | _=>false

def H5 (pos:Nat) (s:Sh) (F:zB):zB:=fun args hp n=>match args[pos]? with
 | some (.ptr t 0)=>match hp t with
  | .box cs=>match bG hp s cs with
   | some (x,[])=>
    let az:=args.set pos (.eptr (zl s x) 0)
    let z:=t::cs.flatMap aY
    if (AV.idsL az).all (fun i=>(AV.idsL args).contains i&&(hp i).ids.isEmpty && !z.contains i)&&(cs.flatMap aY).all (fun i=>(hp t).ids.contains i) then
     (F az hp n).bind fun f=>if l9 f.val&&f.nw.isEmpty&&f.wr.all (fun p=>yo p.2) then .ok { f with val:=f.val.ren fun i=>i } else .err
    else .err
   | _=>.err
  | _=>.err
 | _=>.err

theorem F2 {P:Program} {gl:Nat→AV} {k:FuncId} {pos:Nat} {s:Sh} {F:zB} (h:kx P gl k F):kx P gl k (H5 pos s F):=by
  refine ⟨h.fn,?_⟩
  intro w U ρ hp n args vals f fp hv hr hub hgl hfp hin hcl hn
  unfold H5 at hv
  split at hv
  rotate_left
  · simp at hv
  rename_i t hpos
  split at hv
  rotate_left
  · simp at hv
  rename_i cs hbox
  split at hv
  rotate_left
  · simp at hv
  rename_i x himp
  dsimp only at hv
  split at hv
  rotate_left
  · simp at hv
  rename_i hcond
  simp only [aC,cH,List.contains_eq_mem,ae,Bool.not_eq_true',decide_eq_false_iff_not,List.isEmpty_iff] at hcond
  obtain ⟨hids,hvec⟩:=hcond
  rw [Tr.val_bind,dT] at hv
  obtain ⟨f0,hf0,hv⟩:=hv
  split at hv
  rotate_left
  · simp at hv
  rename_i hsc
  simp only [aC,List.isEmpty_iff,cH] at hsc
  obtain ⟨⟨hs1,hs2⟩,hs3⟩:=hsc
  simp only [Tr.val_ok,zZ] at hv
  subst hv
  have hposl:pos < args.length:=(bw.1 hpos).1
  have htfp:t∈fp:=hin t (eh (gu hpos) (by simp [AV.ids]))
  have hvfp:∀ i∈cs.flatMap aY,i∈fp:=fun i hi=>hcl t htfp i (hvec i hi)
  have hzfp:∀ i∈t::cs.flatMap aY,i∈fp:=by
    intro i hi
    rcases eE.1 hi with rfl | hi
    · exact htfp
    · exact hvfp i hi
  generalize hz:t::cs.flatMap aY=z at hids hzfp
  generalize hU1:(fun b=>U b∧¬ ∃ j∈z,zM ρ j (hp j) b)=U1
  have hsub:∀ b,U1 b→U b:=by intro b hb; rw [← hU1] at hb; exact hb.1
  have hzU:∀ j∈z,∀ b,zM ρ j (hp j) b→¬ U1 b:=fun j hj b ho hb=>by rw [← hU1] at hb; exact hb.2 ⟨j,hj,ho⟩
  have hto:=hfp.ob t htfp
  rw [hbox] at hto
  obtain ⟨b,T,cells,e1,e2,e3,e4,e5⟩:=hto
  have htz:t∈z:=by rw [← hz]; exact List.mem_cons_self
  have hbU:¬ U1 b:=hzU t htz b ⟨by rw [hbox]; rfl,_,e1,rfl⟩
  obtain ⟨i1,_,i3⟩:=fD (w:=w) (U:=U) (U':=U1) (ρ:=ρ) (hp:=hp) hsub s cs x [] (fun j=>(cells.toList[j]?).getD undef) himp
    (fun j c hj=>by
      have hlt:j < cells.toList.length:=by rw [← e4.len]; exact (bw.1 hj).1
      exact e4.rv j c _ hj (by simp [zJ hlt]))
    (fun id hid=>⟨hfp.ob id (hvfp id hid),fun b hb=>hzU id (by rw [← hz]; exact kF _ hid) b hb⟩)
  have hlen:(zl s x).length=cells.toList.length:=by rw [zK,← e4.len]; simpa using i1.symm
  have heptr:Rv w U1 ρ (.eptr (zl s x) 0) (.pointer (some ⟨b,0,none⟩)):=by
    refine .eptr (zl s x) 0 b 0 (fun j=>(cells.toList[j]?).getD undef) (hub b e2) hbU (fun j hj=>?_) (fun j hj=>?_) i3
    · rw [hlen] at hj
      unfold World.cell?
      simp only [kd,e3]
      rw [zJ hj]
      simp [gz (show j < cells.size by simpa using hj)]
    · rw [hlen] at hj
      rw [zJ hj]
      exact e5 _ (cI hj)
  have hptr:∀ v,vals[pos]?=some v→v=.pointer (some ⟨b,0,none⟩):=by
    intro v hv'
    have:=hr.rv pos _ v hpos hv'
    cases this with
    | ptr _ _ b' h'=>
      rw [e1] at h'
      cases h'
      rfl
  have hr1:bY w U1 ρ (args.set pos (.eptr (zl s x) 0)) vals:=by
    refine ⟨by simp [hr.len],fun j c v hc hv'=>?_⟩
    rw [iZ] at hc
    by_cases hj:pos=j
    · subst hj
      rw [if_pos rfl,if_pos hposl] at hc
      cases hc
      rw [hptr v hv']
      exact heptr
    · rw [if_neg hj] at hc
      exact (hr.rv j c v hc hv').weak hsub
  have hown1:∀ i∈AV.idsL (args.set pos (.eptr (zl s x) 0)),∀ b,zM ρ i (hp i) b→U1 b:=by
    intro i hi b' ho
    obtain ⟨⟨hi1,_⟩,hi3⟩:=hids i hi
    have hifp:=hin i hi1
    rw [← hU1]
    refine ⟨((hfp.ob i hifp).inU ho).1,fun ⟨j,hj,ho'⟩=>?_⟩
    have:=hfp.inj i hifp j (hzfp j hj) b' ho ho'
    exact hi3 (this▸hj)
  obtain ⟨hc,hwr⟩:=h.calls w U1 ρ hp n _ vals f0 (AV.idsL (args.set pos (.eptr (zl s x) 0))) hf0 hr1 (fun b hb=>hub b (hsub b hb)) (fun g=>(hgl g).weak hsub)
    ⟨fun id hid=>(hfp.ob id (hin id (hids id hid).1.1)).mono (bV _) (fun _ _ _=>rfl) (fun b _ hb=>hsub b hb) (fun _ _ h=>h) (fun b ho=>⟨rfl,hown1 id hid b ho⟩),
     fun id1 h1 id2 h2 b o1 o2=>hfp.inj id1 (hin id1 (hids id1 h1).1.1) id2 (hin id2 (hids id2 h2).1.1) b o1 o2⟩ (fun _ h=>h)
    (fun id hid j hj=>by rw [(hids id hid).1.2] at hj; simp at hj) (fun j hj=>by rw [hs2] at hj; simp at hj)
  refine ⟨hc.mono ?_,fun id o hio=>hin id (hids id (hwr id o hio)).1.1⟩
  rintro e w' ⟨v,U1',ρ',rfl,hE⟩
  refine ⟨v,fun b=>U1' b∨(b < w.heap.size∧U b∧∃ j∈z,zM ρ j (hp j) b),ρ',rfl,⟨hE.ext,ug hs1 hE.val,fun id o hio=>?_,?_,hE.rho,hE.rhon,hE.same,?_,?_,?_,hE.own,hE.inj⟩⟩
  · have ho:=hE.wr id o hio
    have hsco:=hs3 _ hio
    cases o with
    | box cs'=>
      obtain ⟨b',T',vals',q1,q2,q3,q4,q5⟩:=ho
      refine ⟨b',T',vals',q1,.inl q2,q3,⟨q4.len,fun j c v' hc' hv''=>?_⟩,q5⟩
      have hcs:jX c=true:=by
        simp only [yo,cH] at hsco
        exact hsco c (gu hc')
      have h0:=q4.rv j c v' hc' hv''
      cases h0 <;> simp [jX] at hcs
      · exact .kb _
      · exact .bool _
      · exact .int _ _ ‹_›
      · exact .str _ ‹_›
      · exact .ifcN
      · exact .ifcS _ _
    | _=>simp [yo] at hsco
  · intro j o hj
    rw [hs2] at hj
    simp at hj
  · rintro b' (hb' | hb')
    · exact hE.ub b' hb'
    · exact j9 hb'.1 hE.ext.sz
  · rintro b' hlt (hb' | hb')
    · exact hsub b' (hE.u1 b' hlt hb')
    · exact hb'.2.1
  · intro b' hlt hb' hno
    by_cases hl:∃ j∈z,zM ρ j (hp j) b'
    · exact .inr ⟨hlt,hb',hl⟩
    · exact .inl (hE.u2 b' hlt (by rw [← hU1]; exact ⟨hb',hl⟩) hno)

noncomputable def xx:=GV.add 72 TH
theorem qb:zm xx:=B1.add Pq
noncomputable def T7:zB:=zP (List.replicate 3 none) (bA xx Tryz.f74 (List.replicate 3 none))
theorem PQ:FK 74 T7:=zY _ qb (aG (by kernel_rfl))
noncomputable def T6:zB:=H5 1 zE T7
theorem PP:FK 74 T6:=F2 PQ

noncomputable def GW:=xx.add 74 T6
theorem sL:zm GW:=qb.add PP
noncomputable section

abbrev XL:Nat→zS:=fun j=>if j=5 then { slots:=[1,2,4,32,33,34] } else if j=14 then { slots:=[1,2,4,7,8,54,55,56],prom:=[(4,some 3,.int .i64)] } else if j=19 then { slots:=[2,4,7,8,70,71,72],prom:=[(4,some 4,zr)] } else { }
inductive oO where
 | h5 (i33:Int) (i34:Int) (z0:zu [CP.d zq]) (jb0:List UInt8) (jb2:Int) (jb5:List UInt8) (jb6:Int) (jb7:Int) (jb8:List UInt8) (jb9:List UInt8) (jc0:Sem Sh.str) (jc2:Int) (jc5:zn) (jc6:Int) (jc7:Int) (jc8:zn) (jc9:zn) (jc10:List (Sem Sh.expr)) (lh_3:List (Sem zi))
 | h14 (l54:List (Sem Sh.str)) (i55:Int) (i56:Int) (z0:zu [CP.d zq]) (jb0:List UInt8) (jb2:Int) (jb5:List UInt8) (jb6:Int) (jb7:Int) (jb8:List UInt8) (jb9:List UInt8) (jc0:Sem Sh.str) (jc2:Sem zg) (jc5:zn) (jc6:Int) (jc7:Int) (jc8:zn) (jc9:zn) (jc10:List (Sem Sh.expr)) (jd0:Int) (lh_4:List (Sem zi)) (lh_5:List (Sem zg))
 | h19 (l70:List (Sem (Sh.str.pr Sh.str))) (i71:Int) (i72:Int) (ja0:List UInt8) (ja2:Int) (ja5:List UInt8) (ja6:Int) (ja7:Int) (ja8:List UInt8) (ja9:List UInt8) (jb0:Sem Sh.str) (jb2:Sem zg) (jb5:zn) (jb6:Int) (jb7:Int) (jb8:zn) (jb9:zn) (jb10:List (Sem Sh.expr)) (jc0:Int) (lh_3:List (Sem zi)) (lh_4:List (Sem zg)) (lh_5:List (Sem zr))
abbrev Z1:oO→Nat×St
 | .h5 i33 i34 z0 jb0 jb2 jb5 jb6 jb7 jb8 jb9 jc0 jc2 jc5 jc6 jc7 jc8 jc9 jc10 lh_3=>(5,⟨tm 107 [(1,AV.ptr 0 0),(2,AV.ptr 1 0),(4,AV.ptr 2 0),(32,AV.vec 3),(33,AV.int .i64 i33),(34,AV.int .i64 i34)],[AO.box (bn [] [CP.d zq] z0),AO.box [AV.str jb0,AV.nils,AV.int .i64 jb2,AV.nils,AV.nils,AV.str jb5,AV.int .i64 jb6,AV.int .i64 jb7,AV.str jb8,AV.str jb9,AV.nils],AO.box [AV.str jc0,AV.vec 3,AV.int .i64 jc2,AV.nils,AV.nils,AV.str jc5,AV.int .i64 jc6,AV.int .i64 jc7,AV.str jc8,AV.str jc9,AV.sl Sh.expr jc10],AO.vec zi lh_3]⟩)
 | .h14 l54 i55 i56 z0 jb0 jb2 jb5 jb6 jb7 jb8 jb9 jc0 jc2 jc5 jc6 jc7 jc8 jc9 jc10 jd0 lh_4 lh_5=>(14,⟨tm 107 [(1,AV.ptr 0 0),(2,AV.ptr 1 0),(4,AV.ptr 2 0),(7,AV.ptr 3 0),(8,AV.clo (Fn.func 74) [] [AV.ptr 2 0,AV.ptr 3 0]),(54,AV.sl Sh.str l54),(55,AV.int .i64 i55),(56,AV.int .i64 i56)],[AO.box (bn [] [CP.d zq] z0),AO.box [AV.str jb0,AV.nils,AV.int .i64 jb2,AV.nils,AV.nils,AV.str jb5,AV.int .i64 jb6,AV.int .i64 jb7,AV.str jb8,AV.str jb9,AV.nils],AO.box [AV.str jc0,AV.vec 4,AV.int .i64 jc2,AV.vec 5,AV.nils,AV.str jc5,AV.int .i64 jc6,AV.int .i64 jc7,AV.str jc8,AV.str jc9,AV.sl Sh.expr jc10],AO.box [AV.int .i64 jd0],AO.vec zi lh_4,AO.vec zg lh_5]⟩)
 | .h19 l70 i71 i72 ja0 ja2 ja5 ja6 ja7 ja8 ja9 jb0 jb2 jb5 jb6 jb7 jb8 jb9 jb10 jc0 lh_3 lh_4 lh_5=>(19,⟨tm 107 [(2,AV.ptr 0 0),(4,AV.ptr 1 0),(7,AV.ptr 2 0),(8,AV.clo (Fn.func 74) [] [AV.ptr 1 0,AV.ptr 2 0]),(70,AV.sl (Sh.str.pr Sh.str) l70),(71,AV.int .i64 i71),(72,AV.int .i64 i72)],[AO.box [AV.str ja0,AV.nils,AV.int .i64 ja2,AV.nils,AV.nils,AV.str ja5,AV.int .i64 ja6,AV.int .i64 ja7,AV.str ja8,AV.str ja9,AV.nils],AO.box [AV.str jb0,AV.vec 3,AV.int .i64 jb2,AV.vec 4,AV.vec 5,AV.str jb5,AV.int .i64 jb6,AV.int .i64 jb7,AV.str jb8,AV.str jb9,AV.sl Sh.expr jb10],AO.box [AV.int .i64 jc0],AO.vec zi lh_3,AO.vec zg lh_4,AO.vec zr lh_5]⟩)
def zbj (x0:Sem zq):Tr (oO ⊕ au):=
 let a0 := !x0.1==[99,114,101,97,116,101]
 let a1:=zC x0.2.2.2.2.2.2.2.2.1
 let a2:=(x0.1,x0.2.1,x0.2.2.1,x0.2.2.2.1,x0.2.2.2.2.1,x0.2.2.2.2.2.1,x0.2.2.2.2.2.2.1,x0.2.2.2.2.2.2.2.1,a1,x0.2.2.2.2.2.2.2.2.2.1,x0.2.2.2.2.2.2.2.2.2.2.1,zC x0.2.2.2.2.2.2.2.2.2.2.2.1,x0.2.2.2.2.2.2.2.2.2.2.2.2)
 Tr.chk (bif a0 then true else nf a2)
 (Tr.br (bif a0 then true else !fk a2)
  (Tr.re (AV.tup [AV.agg [AV.str [],AV.nils,AV.int .i64 0,AV.nils,AV.nils,AV.str [],AV.int .i64 0,AV.int .i64 0,AV.str [],AV.str [],AV.nils],AV.int .i64 1]) [])
  (Tr.chk (decide (length x0.2.2.2.2.1≤1073741824)) (Tr.chk (nD 16 a1) (Tr.to (oO.h5 (↑(length x0.2.2.2.2.1):Int) 0 (x0,()) [] 0 [] 0 0 [] [] x0.2.1 0 (ze.op x0.2.2.2.2.2.2.2.2.1) (ze.v x0.2.2.2.2.2.2.2.2.1).1 (ze.v x0.2.2.2.2.2.2.2.2.1).2.1 (ze.v x0.2.2.2.2.2.2.2.2.1).2.2 (ze.s x0.2.2.2.2.2.2.2.2.1) (ze.l x0.2.2.2.2.2.2.2.2.1) x0.2.2.2.2.1)))))
def zbX:oO→Tr (oO ⊕ au)
 | .h5 i33 i34 z0 jb0 jb2 jb5 jb6 jb7 jb8 jb9 jc0 jc2 jc5 jc6 jc7 jc8 jc9 jc10 lh_3=>
  let a0:=(jc0,lh_3,jc2,[],[],ze.mk jc5 (jc6,jc7,jc8) jc9 jc10)
  let a1:=lh_3.getD i34.toNat (zj zi)
  let a2:=j4 a0 z0.1.2.2.2.2.2.1
  let a3:=(↑(length z0.1.2.2.2.2.2.2.1):Int)
  Tr.br (decide (i34 < i33))
  (Tr.chk (zH i34 lh_3.length) (Tr.chk (decide (i34.toNat < lh_3.length)) (Tr.br (j4 a0 a1.1 != i34) (Tr.re (AV.tup [AV.agg [AV.str [],AV.nils,AV.int .i64 0,AV.nils,AV.nils,AV.str [],AV.int .i64 0,AV.int .i64 0,AV.str [],AV.str [],AV.nils],AV.int .i64 7]) []) (Tr.to
  (oO.h5 i33 (IntKind.i64.wrap (i34+1)) z0 jb0 jb2 jb5 jb6 jb7 jb8 jb9 jc0 jc2 jc5 jc6 jc7 jc8 jc9 jc10 lh_3)))))
  (Tr.br (decide (a2 < 0)) (Tr.to (oO.h14 z0.1.2.2.2.2.2.2.1 a3 0 z0 jb0 jb2 jb5 jb6 jb7 jb8 jb9 jc0 a2 jc5 jc6 jc7 jc8 jc9 jc10 4 lh_3 [])) (Tr.to (oO.h14 z0.1.2.2.2.2.2.2.1 a3 0 z0 jb0 jb2 jb5 jb6 jb7 jb8 jb9 jc0 a2 jc5 jc6 jc7 jc8 jc9 jc10 0 lh_3 [])))
 | .h14 l54 i55 i56 z0 jb0 jb2 jb5 jb6 jb7 jb8 jb9 jc0 jc2 jc5 jc6 jc7 jc8 jc9 jc10 jd0 lh_4 lh_5=>
  let a0:=j4 (jc0,lh_4,jc2,lh_5,[],ze.mk jc5 (jc6,jc7,jc8) jc9 jc10) (l54.getD i56.toNat (zj Sh.str))
  let a1:=[a0]
  let a2:=decide (lh_5.length+a1.length≤1073741824)
  let a3:=IntKind.i64.wrap (i56+1)
  let a4:=lh_5++a1
  Tr.br (decide (i56 < i55))
  (Tr.chk (zH i56 l54.length) (Tr.br (decide (a0 < 0)) (Tr.chk a2 (Tr.to (oO.h14 l54 i55 a3 z0 jb0 jb2 jb5 jb6 jb7 jb8 jb9 jc0 jc2 jc5 jc6 jc7 jc8 jc9 jc10 4 lh_4 a4))) (Tr.chk a2 (Tr.to (oO.h14 l54 i55 a3 z0 jb0 jb2 jb5 jb6 jb7 jb8 jb9 jc0 jc2 jc5 jc6 jc7 jc8 jc9 jc10 jd0 lh_4 a4)))))
  (Tr.to (oO.h19 z0.1.2.2.2.2.2.2.2.1 (↑(length z0.1.2.2.2.2.2.2.2.1):Int) 0 jb0 jb2 jb5 jb6 jb7 jb8 jb9 jc0 jc2 jc5 jc6 jc7 jc8 jc9 jc10 jd0 lh_4 lh_5 []))
 | .h19 l70 i71 i72 ja0 ja2 ja5 ja6 ja7 ja8 ja9 jb0 jb2 jb5 jb6 jb7 jb8 jb9 jb10 jc0 lh_3 lh_4 lh_5=>
  let a0:=ze.mk jb5 (jb6,jb7,jb8) jb9 jb10
  let a1:=l70.getD i72.toNat (zj (Sh.str.pr Sh.str))
  let a2:=j4 (jb0,lh_3,jb2,lh_4,lh_5,a0) a1.1
  let a3:=[(a2,a1.2)]
  let a4:=decide (lh_5.length+a3.length≤1073741824)
  let a5:=IntKind.i64.wrap (i72+1)
  let a6:=lh_5++a3
  let a7:=nc a0 lh_3
  let a8:=lh_3.getD (toNat jb2) (zj zi)
  Tr.br (decide (i72 < i71))
  (Tr.chk (zH i72 l70.length) (Tr.br (decide (a2 < 0)) (Tr.chk a4 (Tr.to (oO.h19 l70 i71 a5 ja0 ja2 ja5 ja6 ja7 ja8 ja9 jb0 jb2 jb5 jb6 jb7 jb8 jb9 jb10 4 lh_3 lh_4 a6))) (Tr.chk a4 (Tr.to (oO.h19 l70 i71 a5 ja0 ja2 ja5 ja6 ja7 ja8 ja9 jb0 jb2 jb5 jb6 jb7 jb8 jb9 jb10 jc0 lh_3 lh_4 a6)))))
  (Tr.br (jc0==0) (Tr.br (a7 != 0) (Tr.re (AV.tup [AV.agg [AV.str [],AV.nils,AV.int .i64 0,AV.nils,AV.nils,AV.str [],AV.int .i64 0,AV.int .i64 0,AV.str [],AV.str [],AV.nils],AV.int .i64 a7]) []) (Tr.chk (zH jb2 lh_3.length) (Tr.chk (decide (toNat jb2 < lh_3.length)) (Tr.re (AV.tup [AV.agg
  [AV.str jb0,AV.vec 0,AV.int .i64 jb2,AV.vec 1,AV.vec 2,AV.str jb5,AV.int .i64 jb6,AV.int .i64 jb7,AV.str jb8,AV.str jb9,AV.sl Sh.expr jb10],AV.int .i64 0]) [AO.vec zi (lh_3.set (toNat jb2) (a8.1,a8.2.1,true)),AO.vec zg lh_4,AO.vec zr lh_5])))) (Tr.br (jc0 != 0) (Tr.re (AV.tup [AV.agg
  [AV.str [],AV.nils,AV.int .i64 0,AV.nils,AV.nils,AV.str [],AV.int .i64 0,AV.int .i64 0,AV.str [],AV.str [],AV.nils],AV.int .i64 jc0]) []) (Tr.chk (zH jb2 lh_3.length) (Tr.chk (decide (toNat jb2 < lh_3.length)) (Tr.re (AV.tup [AV.agg [AV.str jb0,AV.vec 0,AV.int .i64 jb2,AV.vec 1,AV.vec 2,AV.str jb5,AV.int .i64 jb6,AV.int .i64 jb7,
  AV.str jb8,AV.str jb9,AV.sl Sh.expr jb10],AV.int .i64 0]) [AO.vec zi (lh_3.set (toNat jb2) (a8.1,a8.2.1,true)),AO.vec zg lh_4,AO.vec zr lh_5])))))
def Sy (x0:Sem zq):=aq [zE,zg] zbX 100000000 (zbj x0)
def zbU (x0:Sem zq):=(Sy x0).isSome
def sOf (x0:Sem zq):=o2 (Sy x0)
def TL:=FT [zq] [zE,zg] fun x=>Sy x.1
theorem Pv:FK 38 TL:=sL.T1 (f:=Tryz.f38) (keep:=XL) (e:=Z1)

def GX:=GW.add 38 TL
theorem sM:zm GX:=sL.add Pv
end

noncomputable def zbf (x0:Sem aR):Tr (Empty ⊕ au):=
 let a0:=(x0.2.1,x0.2.2.1,x0.2.2.2.1,x0.2.2.2.2.1,x0.2.2.2.2.2.1,x0.2.2.2.2.2.2.1,x0.2.2.2.2.2.2.2.1,x0.2.2.2.2.2.2.2.2.1,zC x0.2.2.2.2.2.2.2.2.2.1,x0.2.2.2.2.2.2.2.2.2.2.1,x0.2.2.2.2.2.2.2.2.2.2.2.1,zC x0.2.2.2.2.2.2.2.2.2.2.2.2.1,x0.2.2.2.2.2.2.2.2.2.2.2.2.2)
 let a1:=sOf a0
 let a2:=cy a1.2
 let a3:=aE x0.1 a1.1.1
 let a4:=((a1.1.1,a1.1.2.1,a1.1.2.2.1,a1.1.2.2.2.1,a1.1.2.2.2.2.1,zC a1.1.2.2.2.2.2),[])
 let a5:=mq x0.1 a4
 let a6:=vD a5 1
 Tr.chk (zbU a0)
 (Tr.br (a1.2 != 0)
  (Tr.chk (rY a1.2) (Tr.re (AV.tup [AV.sl zh a2.1,AV.agg [AV.int .i64 a2.2.1,AV.int .i64 a2.2.2.1,AV.sl zf.sl a2.2.2.2]]) []))
  (Tr.br (decide (a3 ≥ 0)) (Tr.chk true (Tr.re (AV.tup [AV.sl zh (cy 7).1,AV.agg [AV.int .i64 (cy 7).2.1,AV.int .i64 (cy 7).2.2.1,AV.sl zf.sl (cy 7).2.2.2]]) [])) (Tr.br (decide ((↑(length x0.1):Int) ≥ 12)) (Tr.chk true (Tr.re (AV.tup [AV.sl zh (cy 13).1,AV.agg [AV.int .i64 (cy 13).2.1,AV.int .i64 (cy 13).2.2.1,AV.sl zf.sl (cy 13).2.2.2]]) []))
  (Tr.chk (mN x0.1 a4) (Tr.chk (oV a5 1) (Tr.re (AV.tup [AV.sl zh a6.1,AV.agg [AV.int .i64 a6.2.1,AV.int .i64 a6.2.2.1,AV.sl zf.sl a6.2.2.2]]) []))))))
noncomputable def rX (x0:Sem aR):=aq [zh.sl,eI] t0 100000000 (zbf x0)
noncomputable def Gp (x0:Sem aR):=(rX x0).isSome
noncomputable def Lf (x0:Sem aR):=o2 (rX x0)
noncomputable def Tv:=FT [aR] [zh.sl,eI] fun x=>rX x.1
theorem Pc:FK 17 Tv:=sM.T1 (f:=Tryz.f17) (keep:=k0) (e:=e0)

noncomputable def GY:=GX.add 17 Tv
theorem sO:zm GY:=sM.add Pc

noncomputable def Xx (x0:Sem zh.sl) (x1:Sem zq):Tr (Empty ⊕ au):=
 let a0:=(x1.1,x1.2.1,x1.2.2.1,x1.2.2.2.1,x1.2.2.2.2.1,x1.2.2.2.2.2.1,x1.2.2.2.2.2.2.1,x1.2.2.2.2.2.2.2.1,zC x1.2.2.2.2.2.2.2.2.1,x1.2.2.2.2.2.2.2.2.2.1,x1.2.2.2.2.2.2.2.2.2.2.1,zC x1.2.2.2.2.2.2.2.2.2.2.2.1,x1.2.2.2.2.2.2.2.2.2.2.2.2)
 let a1 := !fk a0
 let a2:=nf a0&&bif a1 then true else qL x0
 let a3:=bif a1 then true else mK x0 != 0
 let a4:=(x0,a0)
 let a5:=Lf a4
 let a6:=Lg a4
 let a7:=xh a4
 let a8:=xf a4
 Tr.chk true
 (Tr.chk true
  (Tr.chk true (Tr.chk true (Tr.chk true (Tr.chk true (Tr.br (x1.1==[99,114,101,97,116,101]) (Tr.chk a2 (Tr.br a3 (Tr.re (AV.tup [AV.sl zh x0,AV.agg [AV.int .i64 1,AV.int .i64 0,AV.nils]]) []) (Tr.chk (Gp a4) (Tr.br (a5.2.1 != 0) (Tr.re (AV.tup [AV.sl zh x0,AV.agg [AV.int .i64 a5.2.1,AV.int .i64 a5.2.2.1,AV.sl zf.sl a5.2.2.2]]) []) (Tr.re (AV.tup [AV.sl zh a5.1,
  AV.agg [AV.int .i64 a5.2.1,AV.int .i64 a5.2.2.1,AV.sl zf.sl a5.2.2.2]]) []))))) (Tr.br (x1.1==[100,114,111,112]) (Tr.chk a2 (Tr.br a3 (Tr.re (AV.tup [AV.sl zh x0,AV.agg [AV.int .i64 1,AV.int .i64 0,AV.nils]]) []) Tr.err)) (Tr.br (x1.1==[105,110,115,101,114,116]) (Tr.chk a2 (Tr.br a3 (Tr.re (AV.tup [AV.sl zh x0,AV.agg [AV.int .i64 1,AV.int .i64 0,AV.nils]]) [])
  (Tr.chk (Gq a4) (Tr.br (a6.2.1 != 0) (Tr.re (AV.tup [AV.sl zh x0,AV.agg [AV.int .i64 a6.2.1,AV.int .i64 a6.2.2.1,AV.sl zf.sl a6.2.2.2]]) []) (Tr.re (AV.tup [AV.sl zh a6.1,AV.agg [AV.int .i64 a6.2.1,AV.int .i64 a6.2.2.1,AV.sl zf.sl a6.2.2.2]]) []))))) (Tr.br (x1.1==[117,112,100,97,116,101]) (Tr.chk a2 (Tr.br a3 (Tr.re (AV.tup [AV.sl zh x0,
  AV.agg [AV.int .i64 1,AV.int .i64 0,AV.nils]]) []) Tr.err)) (Tr.br (x1.1==[100,101,108,101,116,101]) (Tr.chk a2 (Tr.br a3 (Tr.re (AV.tup [AV.sl zh x0,AV.agg [AV.int .i64 1,AV.int .i64 0,AV.nils]]) []) (Tr.chk (r6 a4) (Tr.br (a7.2.1 != 0) (Tr.re (AV.tup [AV.sl zh x0,AV.agg [AV.int .i64 a7.2.1,AV.int .i64 a7.2.2.1,AV.sl zf.sl a7.2.2.2]]) []) (Tr.re (AV.tup [AV.sl
  zh a7.1,AV.agg [AV.int .i64 a7.2.1,AV.int .i64 a7.2.2.1,AV.sl zf.sl a7.2.2.2]]) []))))) (Tr.br (x1.1==[115,101,108,101,99,116]) (Tr.chk a2 (Tr.br a3 (Tr.re (AV.tup [AV.sl zh x0,AV.agg [AV.int .i64 1,AV.int .i64 0,AV.nils]]) []) (Tr.chk (rV a4) (Tr.br (a8.2.1 != 0) (Tr.re (AV.tup [AV.sl zh x0,AV.agg [AV.int .i64 a8.2.1,AV.int .i64 a8.2.2.1,
  AV.sl zf.sl a8.2.2.2]]) []) (Tr.re (AV.tup [AV.sl zh a8.1,AV.agg [AV.int .i64 a8.2.1,AV.int .i64 a8.2.2.1,AV.sl zf.sl a8.2.2.2]]) []))))) (Tr.re (AV.tup [AV.sl zh x0,AV.agg [AV.int .i64 1,AV.int .i64 0,AV.nils]]) []))))))))))))
noncomputable def uF (x0:Sem zh.sl) (x1:Sem zq):=aq [zh.sl,eI] t0 100000000 (Xx x0 x1)
noncomputable def Gh (x0:Sem zh.sl) (x1:Sem zq):=(uF x0 x1).isSome
noncomputable def Wa (x0:Sem zh.sl) (x1:Sem zq):=o2 (uF x0 x1)
noncomputable def F9w:=FT [zh.sl,zq] [zh.sl,eI] fun x=>uF x.1 x.2.1
theorem VK:FK 9 F9w:=sO.T1 (f:=Tryz.f9) (keep:=k0) (e:=e0)

noncomputable def GZ:=GY.add 9 F9w
theorem B2:zm GZ:=sO.add VK
noncomputable section
def G1:=GZ.add 32 TG
theorem sQ:zm G1:=B2.add Pp

def zbe:Tr (Empty ⊕ au):=
 Tr.chk true
 (Tr.chk true
  (Tr.chk true (Tr.chk true (Tr.chk true (Tr.chk true (Tr.chk true (Tr.chk true (Tr.chk true (Tr.chk true (Tr.chk true (Tr.chk true (Tr.chk true (Tr.chk true (Tr.re (AV.bool true) []))))))))))))))
def wZ:=aq [Sh.bool] t0 100000000 (zbe)
def rM:=(wZ).isSome
def pY:=o1 (wZ)
def Tp:=FT [] [Sh.bool] fun _=>wZ
theorem O7:FK 13 Tp:=sQ.T1 (f:=Tryz.f13) (keep:=k0) (e:=e0)

def NU:=G1.add 13 Tp
theorem Fa:zm NU:=sQ.add O7
end
noncomputable section
def QA:=(NU.add 14 ZM).add 10 ZN
theorem B3:zm QA:=(Fa.add Nr).add Ns

def Xu (x0:Sem zh.sl) (x1:Sem Sh.str) (x2:Sem Sh.expr):Tr (Empty ⊕ au):=
 let a0:=([115,101,108,101,99,116],x1,[],[],[],[],[],[],ze.mk [] (0,0,[]) [] [],[],[],zC x2,[])
 let a1:=HZ a0
 let a2:=(a1.2.1,a1.2.2.1,a1.2.2.2.1,a1.2.2.2.2.1,a1.2.2.2.2.2.1,a1.2.2.2.2.2.2.1,a1.2.2.2.2.2.2.2.1,zC a1.2.2.2.2.2.2.2.2.1,a1.2.2.2.2.2.2.2.2.2.1,a1.2.2.2.2.2.2.2.2.2.2.1,zC a1.2.2.2.2.2.2.2.2.2.2.2.1,a1.2.2.2.2.2.2.2.2.2.2.2.2)
 let a3:=(a1.1,a2)
 let a4:=Wa (wu x0) a3
 let a5:=(↑(length a4.2.2.2):Int)
 let a6:=a5==0
 let a7:=a4.2.2.1==0
 let a8:=([100,101,108,101,116,101],a2)
 let a9:=Wa (wu x0) a8
 let a10:=a9.2.1==10
 let a11:=a9.2.2.1==a4.2.2.1
 let a12:=Wa a9.1 a3
 let a13:=a12.2.1==0
 let a14:=a12.2.2.1==0
 Tr.chk (Cv x0)
 (Tr.chk (Cr a0)
  (Tr.chk (Gh (wu x0) a3) (Tr.br (a4.2.1 != 0) (Tr.chk (bif a6 then bif a7 then rM else true else true) (Tr.re (AV.bool (bif a6 then bif a7 then pY else false else false)) [])) (Tr.br (a4.2.2.1 != a5) (Tr.re (AV.kb false) []) (Tr.chk (Gh (wu x0) a8) (Tr.br (a9.2.1 != 0) (Tr.chk (bif a10 then rM else true) (Tr.re (AV.bool (bif a10 then pY else false)) []))
  (Tr.chk (Gh a9.1 a3) (Tr.chk (bif a11 then bif a13 then bif a14 then rM else true else true else true) (Tr.re (AV.bool (bif a11 then bif a13 then bif a14 then pY else false else false else false)) [])))))))))
def wv (x0:Sem zh.sl) (x1:Sem Sh.str) (x2:Sem Sh.expr):=aq [Sh.bool] t0 100000000 (Xu x0 x1 x2)
def ZB:=FT [zh.sl,Sh.str,Sh.expr] [Sh.bool] fun x=>wv x.1 x.2.1 x.2.2.1
theorem Vf:FK 6 ZB:=B3.T1 (f:=Tryz.f6) (keep:=k0) (e:=e0)

end

theorem j0 {a0 a1 a2 a3 a4 a5 a6 a7 a8 a9 b0 b1 b2 b3 b4 b5 b6 d0 d1 d2 d3 d4 d5 d6 d7 d8 d9}:∀ (l:List (Sem zr)) (i:Int) (acc:List (Sem zr)),(acc.length:Int)≤i→acc.length≤10→
  (gn a0 a1 a2 a3 a4 a5 a6 a7 a8 a9 b0 b1 b2 b3 b4 b5 b6 d0 d1 d2 d3 d4 d5 d6 d7 d8 d9 l i acc).2.2.2.1=d9∧length (gn a0 a1 a2 a3 a4 a5 a6 a7 a8 a9 b0 b1 b2 b3 b4 b5 b6 d0 d1 d2 d3 d4 d5 d6 d7 d8 d9 l i acc).2.2.2.2.1≤10
 | [],_,_,_,ha=>⟨rfl,ha⟩
 | x::r,i,acc,h,ha=>by
  rw [gn]
  split
  ·rename_i hi
   simp only [ae] at hi
   exact j0 r (i+1) _ (by simp; omega) (by simp; omega)
  ·exact ⟨rfl,ha⟩
theorem oD {a0 a1 a2 a3 a4 a5 a6 a7 a8 a9 b0 b1 b2 b3 b4 b5 b6 d0 d1 d2 d3 d4 d5 d6 d7 d8 d9}:∀ (l:List (Sem zg)) (i:Int) (acc:List (Sem zg)),(acc.length:Int)≤i→acc.length≤10→
  length (gm a0 a1 a2 a3 a4 a5 a6 a7 a8 a9 b0 b1 b2 b3 b4 b5 b6 d0 d1 d2 d3 d4 d5 d6 d7 d8 d9 l i acc).2.2.2.1≤10∧length (gm a0 a1 a2 a3 a4 a5 a6 a7 a8 a9 b0 b1 b2 b3 b4 b5 b6 d0 d1 d2 d3 d4 d5 d6 d7 d8 d9 l i acc).2.2.2.2.1≤10
 | [],i,acc,h,ha=>by
  rw [gm]
  obtain ⟨h1,h2⟩:=j0 (a0:=a0) (a1:=a1) (a2:=a2) (a3:=d9) (a4:=a4) (a5:=a5) (a6:=a6) (a7:=a7) (a8:=a8) (a9:=a9) (b0:=b0) (b1:=b1) (b2:=b2) (b3:=b3) (b4:=b4) (b5:=b5) (b6:=b6) (d0:=d0) (d1:=d1) (d2:=d2) (d3:=d3) (d4:=d4) (d5:=d5) (d6:=d6) (d7:=d7) (d8:=d8) (d9:=acc) a3 0 [] (by simp) (by simp)
  rw [h1]
  exact ⟨ha,h2⟩
 | x::r,i,acc,h,ha=>by
  rw [gm]
  split
  ·rename_i hi
   simp only [ae] at hi
   exact oD r (i+1) _ (by simp; omega) (by simp; omega)
  ·obtain ⟨h1,h2⟩:=j0 (a0:=a0) (a1:=a1) (a2:=a2) (a3:=d9) (a4:=a4) (a5:=a5) (a6:=a6) (a7:=a7) (a8:=a8) (a9:=a9) (b0:=b0) (b1:=b1) (b2:=b2) (b3:=b3) (b4:=b4) (b5:=b5) (b6:=b6) (d0:=d0) (d1:=d1) (d2:=d2) (d3:=d3) (d4:=d4) (d5:=d5) (d6:=d6) (d7:=d7) (d8:=d8) (d9:=acc) a3 0 [] (by simp) (by simp)
   rw [h1]
   exact ⟨ha,h2⟩
theorem CY (t:Sem zE):length (mi t).2.2.2.1≤10∧length (mi t).2.2.2.2.1≤10:=by
 unfold mi
 exact oD _ _ _ (by simp) (by simp)

def wT (l rows:List (Sem (.sl zf))):Prop:=rows.length≤201∧∀ r∈rows,∃ r0∈l,r=jp r0
theorem zaa (n:Nat) (i4:Int) (hi4:i4≤201) (h0:0≤i4) (z0:zu ZX) (z1:zu Qx) (t:Sem zE) (hn:300≤n):∃ rows:List (Sem (.sl zf)),wT z0.1.2 rows∧∃ r,bE FE n (.h6 i4 0 z0 z1 (t,[],()))=some r∧zX r.2 [zh] r.1=some (((t,rows):Sem zh),()):=by
 obtain ⟨N,hN⟩:∃ N:Nat,i4=(N:Int):=⟨toNat i4,by omega⟩
 have h:=jo (t:=FE) (β:=List (Sem (.sl zf))) (min N (length z0.1.2)) (fun b i=>.h6 i4 (i:Int) z0 z1 (t,b,())) (fun b i=>b.length=i∧∀ r∈b,∃ r0∈z0.1.2,r=jp r0) (fun r=>∃ rows:List (Sem (.sl zf)),wT z0.1.2 rows∧zX r.2 [zh] r.1=some (((t,rows):Sem zh),())) 1 (by
   intro b i hi hb
   have h1:(i:Int) < (length z0.1.2:Int):=by omega
   have h2:(i:Int) < i4:=by omega
   have h3:zH (i:Int) (length z0.1.2)=true:=zN (by omega)
   refine Or.inl ⟨b++[jp (List.getD z0.1.2 (i:Int).toNat (zj zf.sl))],⟨by simp [hb.1],fun r hr=>?_⟩,?_⟩
   ·rcases bg.1 hr with hr | hr
    ·exact hb.2 r hr
    ·rw [bz] at hr
     refine ⟨_,?_,hr⟩
     rw [dp,aJ,zJ (by omega),dU]
     exact cI _
   simp only [FE,Tr.val,dc h1,dc h2,bJ,if_true,h3]
   rw [zG i (by unfold zD; omega),if_pos (by simp; omega)]) (by
   intro b n hb hn
   obtain ⟨n,rfl⟩:∃ k,n=k+1:=⟨n - 1,by omega⟩
   rw [jn]
   have hf:(bif decide (((min N (length z0.1.2):Nat):Int) < (length z0.1.2:Int)) then decide (((min N (length z0.1.2):Nat):Int) < i4) else false)=false:=by
    by_cases h:N≤length z0.1.2
    ·rw [Nat.min_eq_left h,hN]
     simp
    ·rw [Nat.min_eq_right (by omega)]
     simp
   simp only [FE,Tr.val,hf]
   refine ⟨_,rfl,b,⟨by have:=hb.1; omega,hb.2⟩,?_⟩
   obtain ⟨t0,t1,t2,t3,t4,t5⟩:=t
   cases t5
   rfl) (min N (length z0.1.2)) 0 [] n rfl (aZ _) ⟨rfl,by simp⟩ (by omega)
 obtain ⟨r,h1,rows,h2,h3⟩:=h
 exact ⟨rows,h2,r,h1,h3⟩

theorem AR (x:Sem zh):∃ rows:List (Sem (.sl zf)),wT x.2 rows∧th x=some (((mi x.1,rows):Sem zh),()):=by
 have e:mi (x.1.1,x.1.2.1,x.1.2.2.1,x.1.2.2.2.1,x.1.2.2.2.2.1,zC x.1.2.2.2.2.2)=mi x.1:=by rw [zt]
 have hv:∃ k:Int,0≤k∧k≤201∧(Q2 x).val=some (.inl (.h6 k 0 (x,()) ([],0,[],0,0,[],[],()) (mi x.1,[],()))):=by
  simp only [Q2,Tr.val,e]
  split
  ·exact ⟨201,by omega,by omega,rfl⟩
  ·exact ⟨40,by omega,by omega,rfl⟩
 obtain ⟨k,k1,k2,hv⟩:=hv
 obtain ⟨rows,h1,r,h2,h3⟩:=zaa 100000000 k k2 k1 (x,()) ([],0,[],0,0,[],[],()) (mi x.1) (by omega)
 refine ⟨rows,h1,?_⟩
 unfold th aq cM
 rw [hv]
 show (bE FE 100000000 _).bind _=_
 rw [h2]
 exact h3

theorem AS (x:Sem zh):dX (qi x):=by
 obtain ⟨rows,h1,h2⟩:=AR x
 have h3:qi x=(mi x.1,rows):=by unfold qi; rw [h2]; rfl
 rw [h3]
 obtain ⟨k1,k2⟩:=CY x.1
 exact ⟨by show length (mi x.1).2.2.2.1≤_; omega,by show length (mi x.1).2.2.2.2.1≤_; omega,by show rows.length≤_; have:=h1.1; omega⟩
theorem AQ (x:Sem zh):Cu x=true:=by
 obtain ⟨rows,h1,h2⟩:=AR x
 unfold Cu
 rw [h2]; rfl

theorem H0 (db:List (Sem zh)):∃ db':List (Sem zh),po db=some (db',())∧db'.length≤13∧∀ x∈db',∃ y∈db,x=qi y:=by
 have h:=jo (t:=Zz) (β:=List (Sem zh)) (min 13 db.length) (fun b i=>.h3 db (i:Int) b) (fun b i=>b.length=i∧∀ x∈b,∃ y∈db,x=qi y) (fun r=>∃ db':List (Sem zh),zX r.2 [zh.sl] r.1=some (db',())∧db'.length≤13∧∀ x∈db',∃ y∈db,x=qi y) 1 (by
   intro b i hi hb
   have h1:(i:Int) < (db.length:Int):=by omega
   have h2:(i:Int) < 13:=by omega
   have h3:zH (i:Int) db.length=true:=zN (by omega)
   refine Or.inl ⟨b++[qi (db.getD (i:Int).toNat (zj zh))],⟨by simp [hb.1],?_⟩,?_⟩
   ·intro x hx
    rcases bg.1 hx with hx | hx
    ·exact hb.2 x hx
    ·rw [bz] at hx
     refine ⟨_,?_,hx⟩
     rw [dp,aJ,zJ (by omega),dU]
     exact cI _
   ·simp only [Zz,Tr.val,dc h1,dc h2,bJ,if_true,h3,zt,Prod.eta,AQ]
    rw [zG i (by unfold zD; omega),if_pos (by simp; omega)]) (by
   intro b n hb hn
   obtain ⟨n,rfl⟩:∃ k,n=k+1:=⟨n - 1,by omega⟩
   rw [jn]
   have hf:(bif decide (((min 13 db.length:Nat):Int) < (db.length:Int)) then decide (((min 13 db.length:Nat):Int) < 13) else false)=false:=by
    by_cases h:13≤db.length
    ·rw [Nat.min_eq_left h]
     simp
    ·rw [Nat.min_eq_right (by omega)]
     simp
   simp only [Zz,Tr.val,hf]
   exact ⟨_,rfl,b,rfl,by omega,hb.2⟩) (min 13 db.length) 0 [] 100000000 rfl (aZ _) ⟨rfl,by simp⟩ (by omega)
 obtain ⟨r,h1,db',h2,h3,h4⟩:=h
 refine ⟨db',?_,h3,h4⟩
 unfold po aq cM
 simp only [i7p,Tr.val]
 have h1':bE Zz 100000000 (.h3 db 0 [])=some r:=h1
 rw [h1']
 exact h2

theorem H1 (db:List (Sem zh)):∃ db':List (Sem zh),po db=some (db',())∧db'.length≤13∧∀ x∈db',dX x:=by
 obtain ⟨db',h1,h2,h3⟩:=H0 db
 refine ⟨db',h1,h2,fun x hx=>?_⟩
 obtain ⟨y,_,rfl⟩:=h3 x hx
 exact AS y

theorem gF (s:zn):dq s=true:=by
 unfold dq
 split
 ·rename_i h
  have:20 < s.length:=by simp at h; omega
  rw [if_pos (by simp; omega)]
 ·rfl
theorem c9 (s:zn):(bl s).length≤20:=by
 unfold bl
 split
 ·simp; omega
 ·rename_i h
  have:¬ 20 < s.length:=by simp at h; omega
  omega
theorem km:∀ (l:List zn) (i:Int) (acc:List zn),(acc.length:Int)≤i→dF l i acc=true
 | [],_,_,_=>rfl
 | x::r,i,acc,h=>by
  rw [dF]
  split
  ·rename_i hi
   simp only [ae] at hi
   rw [if_pos (gF x),if_pos (by simp; omega)]
   exact km r (i+1) _ (by simp; omega)
  ·rfl
theorem uQ (l:List zn):kU l=true:=km l 0 [] (by simp)
theorem mz:∀ (l:List zn) (i:Int) (acc:List zn),(acc.length:Int)≤i→acc.length≤10→(∀ x∈acc,length x≤20)→length (cV l i acc)≤10∧∀ x∈cV l i acc,length x≤20
 | [],_,acc,_,h,ha=>⟨h,ha⟩
 | x::r,i,acc,h,hl,ha=>by
  rw [cV]
  split
  ·rename_i hi
   simp only [ae] at hi
   refine mz r (i+1) _ (by simp; omega) (by simp; omega) (fun y hy=>?_)
   rcases bg.1 hy with hy | hy
   ·exact ha y hy
   ·rw [bz] at hy
    rw [hy]; exact c9 x
  ·exact ⟨hl,ha⟩
theorem qh (l:List zn):length (eV l)≤10∧∀ x∈eV l,length x≤20:=mz l 0 [] (by simp) (by simp) (by simp)
theorem kW:∀ (l:List (Sem zi)) (i:Int) (acc:List (Sem zi)),(acc.length:Int)≤i→acc.length≤10→(∀ x∈acc,length x.1≤20)→length (fI l i acc)≤10∧∀ x∈fI l i acc,length x.1≤20
 | [],_,acc,_,h,ha=>⟨h,ha⟩
 | x :: r,i,acc,h,hl,ha=>by
  rw [fI]
  split
  ·rename_i hi
   simp only [ae] at hi
   split
   ·refine kW r (i+1) _ (by simp; omega) (by simp; omega) (fun y hy=>?_)
    rcases bg.1 hy with hy | hy
    ·exact ha y hy
    ·rw [bz] at hy
     rw [hy]; simp; omega
   ·rename_i hx
    have hx:¬ 20 < length x.1:=by simp at hx; omega
    refine kW r (i+1) _ (by simp; omega) (by simp; omega) (fun y hy=>?_)
    rcases bg.1 hy with hy | hy
    ·exact ha y hy
    ·rw [bz] at hy
     rw [hy]; omega
  ·exact ⟨hl,ha⟩
theorem Fk (l:List (Sem zi)):length (kV l)≤10∧∀ x∈kV l,length x.1≤20:=kW l 0 [] (by simp) (by simp) (by simp)
theorem qj:∀ (l:List (Sem zf)) (i:Int) (acc:List (Sem zf)),(acc.length:Int)≤i→acc.length≤14→length (iB l i acc)≤14
 | [],_,acc,_,h=>h
 | x::r,i,acc,h,hl=>by
  rw [iB]
  split
  ·rename_i hi
   simp only [ae] at hi
   exact qj r (i+1) _ (by simp; omega) (by simp; omega)
  ·exact hl
theorem Fl (l:List (Sem zf)):length (jp l)≤14:=qj l 0 [] (by simp) (by simp)

theorem Dy {g:Sem Sh.expr→Sem zg→Sem zg→Sem Sh.expr×Sem zg} {c:Sem Sh.expr→Sem zg→Sem zg→Bool} {i1:Int} {N:Nat} (h:∀ x n,0 < i1→nD N (g x (IntKind.i64.wrap (i1 - 1)) n).1=true) {a0 a1 a2 a3 a4 b0 b1 b2 b3 b4 d0 d1 d2 d3 d4}:
  ∀ (l:List (Sem Sh.expr)) (i n:Int) (acc:List (Sem Sh.expr)),(acc.length:Int)≤i→acc.length≤3→(∀ x∈acc,nD N x=true)→nD (N+1) (bQ g c i1 a0 a1 a2 a3 a4 b0 b1 b2 b3 b4 d0 d1 d2 d3 d4 l i n acc).1=true
 | [],_,_,acc,_,hl,ha=>by
  rw [bQ]
  show (decide (acc.length≤1073741824)&&acc.all (nD N))=true
  rw [cH.2 ha]
  simp; omega
 | x::r,i,n,acc,hi,hl,ha=>by
  rw [bQ]
  split
  ·rename_i hk
   have h3:i < 3∧i1 > 0:=by
    cases h1:decide (i < 3) <;> cases h2:decide (i1 > 0) <;> simp_all
   refine Dy h r (i+1) _ _ (by simp; omega) (by simp; omega) (fun y hy=>?_)
   rcases bg.1 hy with hy | hy
   ·exact ha y hy
   ·rw [bz] at hy
    rw [hy]; exact h x n h3.2
  ·show (decide (acc.length≤1073741824)&&acc.all (nD N))=true
   rw [cH.2 ha]
   simp; omega
theorem Lr {g:Sem Sh.expr→Sem zg→Sem zg→Sem Sh.expr×Sem zg} {c:Sem Sh.expr→Sem zg→Sem zg→Bool} {i1:Int} {N:Nat} (h:∀ x n,0 < i1→nD N (g x (IntKind.i64.wrap (i1 - 1)) n).1=true) (e:ze) (n:Int):nD (N+1) (Cc g c e i1 n).1=true:=by
 unfold Cc
 repeat' split
 all_goals exact Dy h _ _ _ _ (by simp) (by simp) (by simp)
theorem Dz:∀ (N:Nat) (e:ze) (d n:Int),0≤d→d < N→N≤100→nD N (jN N e d n).1=true
 | 0,_,_,_,h1,h2,_=>by omega
 | N+1,e,d,n,h1,h2,h3=>by
  rw [jN]
  refine Lr (fun x m hd=>?_) e n
  rw [j7 _ (by omega) (by omega)]
  exact Dz N x (d - 1) m (by omega) (by omega) (by omega)
theorem Li (e:ze):nD 16 (dd e)=true:=by
 have h:=Dz 16 e 14 80 (by omega) (by omega) (by omega)
 unfold dd
 rw [ze.eta]
 exact h

structure VL (s:Sem zq):Prop where
 sh:eu s
 cp:nD 16 s.2.2.2.2.2.2.2.2.1=true

abbrev Cf (s:Sem zq):zn×zn×zn×List zn×List (Sem zi)×zn×List zn:=(bl s.1,bl s.2.1,bl s.2.2.1,eV s.2.2.2.1,kV s.2.2.2.2.1,bl s.2.2.2.2.2.1,eV s.2.2.2.2.2.2.1)

def F3I (z0:zu kB) (i:Nat) (z:zu Gj):Prop:=z.1.length≤20∧z.2.1.length≤20∧z.2.2.1.length≤20∧(length z.2.2.2.1≤10∧∀ x∈z.2.2.2.1,length x≤20)∧(length z.2.2.2.2.1≤10∧∀ x∈z.2.2.2.2.1,length x.1≤20)∧z.2.2.2.2.2.1.length≤20∧
 (length z.2.2.2.2.2.2.1≤10∧∀ x∈z.2.2.2.2.2.2.1,length x≤20)∧(length z.2.2.2.2.2.2.2.1=i∧∀ x∈z.2.2.2.2.2.2.2.1,length x.1≤20∧length x.2≤20)∧nD 16 z.2.2.2.2.2.2.2.2.1=true∧length z.2.2.2.2.2.2.2.2.2.1≤14∧z.2.2.2.2.2.2.2.2.2.2.2.1.length≤20∧
 z.2.2.2.2.2.2.2.2.1=dd z0.1.2.2.2.2.2.2.2.2.1∧z.2.2.2.2.2.2.2.2.2.1=jp z0.1.2.2.2.2.2.2.2.2.2.1∧z.2.2.2.2.2.2.2.2.2.2.1=dd z0.1.2.2.2.2.2.2.2.2.2.2.2.1∧(z.1,z.2.1,z.2.2.1,z.2.2.2.1,z.2.2.2.2.1,z.2.2.2.2.2.1,z.2.2.2.2.2.2.1)=Cf z0.1

def F7I (z0:zu kB) (i:Nat) (z:zu Gk):Prop:=z.1.length≤20∧z.2.1.length≤20∧z.2.2.1.length≤20∧(length z.2.2.2.1≤10∧∀ x∈z.2.2.2.1,length x≤20)∧(length z.2.2.2.2.1≤10∧∀ x∈z.2.2.2.2.1,length x.1≤20)∧z.2.2.2.2.2.1.length≤20∧
 (length z.2.2.2.2.2.2.1≤10∧∀ x∈z.2.2.2.2.2.2.1,length x≤20)∧(length z.2.2.2.2.2.2.2.1≤10∧∀ x∈z.2.2.2.2.2.2.2.1,length x.1≤20∧length x.2≤20)∧nD 16 z.2.2.2.2.2.2.2.2.1=true∧length z.2.2.2.2.2.2.2.2.2.1≤14∧
 (length z.2.2.2.2.2.2.2.2.2.2.1=i∧∀ x∈z.2.2.2.2.2.2.2.2.2.2.1,length x.1≤20∧∃ y∈z0.1.2.2.2.2.2.2.2.2.2.2.1,x.2=dd y.2)∧z.2.2.2.2.2.2.2.2.2.2.2.2.1.length≤20∧
 z.2.2.2.2.2.2.2.2.1=dd z0.1.2.2.2.2.2.2.2.2.1∧z.2.2.2.2.2.2.2.2.2.1=jp z0.1.2.2.2.2.2.2.2.2.2.1∧z.2.2.2.2.2.2.2.2.2.2.2.1=dd z0.1.2.2.2.2.2.2.2.2.2.2.2.1∧(z.1,z.2.1,z.2.2.1,z.2.2.2.1,z.2.2.2.2.1,z.2.2.2.2.2.1,z.2.2.2.2.2.2.1)=Cf z0.1

structure Nu (s0 s:Sem zq):Prop where
 chk:s.2.2.2.2.2.2.2.2.1=dd s0.2.2.2.2.2.2.2.2.1
 row:s.2.2.2.2.2.2.2.2.2.1=jp s0.2.2.2.2.2.2.2.2.2.1
 whr:s.2.2.2.2.2.2.2.2.2.2.2.1=dd s0.2.2.2.2.2.2.2.2.2.2.2.1
 sets:∀ x∈s.2.2.2.2.2.2.2.2.2.2.1,∃ y∈s0.2.2.2.2.2.2.2.2.2.2.1,(x:Sem aF).2=dd (y:Sem aF).2
 fr:(s.1,s.2.1,s.2.2.1,s.2.2.2.1,s.2.2.2.2.1,s.2.2.2.2.2.1,s.2.2.2.2.2.2.1)=Cf s0

def KK (s0:Sem zq) (r:au):Prop:=∃ s:Sem zq,zX r.2 [zq] r.1=some (s,())∧VL s∧Nu s0 s

theorem fs7 (z0:zu kB) (z1:zu dM) (z:zu Gk) (hz:F7I z0 0 z) (n:Nat) (hn:20≤n):∃ r,bE Mi n (.h7 0 z0 z1 z)=some r∧KK z0.1 r:=by
 refine jo (t:=Mi) (β:=zu Gk) (min 10 (length z0.1.2.2.2.2.2.2.2.2.2.2.1)) (fun z i=>.h7 (i:Int) z0 z1 z) (fun z i=>F7I z0 i z) (KK z0.1) 1 ?_ ?_ (min 10 (length z0.1.2.2.2.2.2.2.2.2.2.2.1)) 0 z n rfl (aZ _) hz (by omega)
 ·intro z i hi hb
  obtain ⟨h0,h1,h2,h3,h4,h5,h6,h7,h8,h9,h10,h11,h12⟩:=hb
  have k1:(i:Int) < (length z0.1.2.2.2.2.2.2.2.2.2.2.1:Int):=by omega
  have k2:(i:Int) < 10:=by omega
  have k3:zH (i:Int) (length z0.1.2.2.2.2.2.2.2.2.2.2.1)=true:=zN (by omega)
  refine Or.inl ⟨(z.1,z.2.1,z.2.2.1,z.2.2.2.1,z.2.2.2.2.1,z.2.2.2.2.2.1,z.2.2.2.2.2.2.1,z.2.2.2.2.2.2.2.1,z.2.2.2.2.2.2.2.2.1,z.2.2.2.2.2.2.2.2.2.1,z.2.2.2.2.2.2.2.2.2.2.1++[(bl (List.getD z0.1.2.2.2.2.2.2.2.2.2.2.1 (i:Int).toNat (zj aF)).1,zC (dd (zC (List.getD z0.1.2.2.2.2.2.2.2.2.2.2.1 (i:Int).toNat (zj aF)).2)))],z.2.2.2.2.2.2.2.2.2.2.2),⟨h0,h1,h2,h3,h4,h5,h6,h7,h8,h9,?_,h11,h12⟩,?_⟩
  rotate_left 1
  ·simp only [Mi,Tr.val,dc k1,dc k2,bJ,if_true,k3,gF]
   rw [zG i (by unfold zD; omega),if_pos (by have:=h10.1; simp; omega)]
  ·refine ⟨?_,fun x hx=>?_⟩
   ·simp [h10.1]
   ·rcases bg.1 hx with hx | hx
    ·exact h10.2 x hx
    ·rw [bz] at hx
     rw [hx]; exact ⟨c9 _,_,AK _ (zj aF) (by simpa using (show i < _ by omega)),by simp only [zt,dp]⟩
 ·intro z n hb hn
  obtain ⟨n,rfl⟩:∃ k,n=k+1:=⟨n - 1,by omega⟩
  obtain ⟨h0,h1,h2,h3,h4,h5,h6,h7,h8,h9,h10,h11,h12⟩:=hb
  rw [jn]
  have hf:(bif decide (((min 10 (length z0.1.2.2.2.2.2.2.2.2.2.2.1):Nat):Int) < (length z0.1.2.2.2.2.2.2.2.2.2.2.1:Int)) then decide (((min 10 (length z0.1.2.2.2.2.2.2.2.2.2.2.1):Nat):Int) < 10) else false)=false:=by
   by_cases h:10≤length z0.1.2.2.2.2.2.2.2.2.2.2.1
   ·rw [Nat.min_eq_left h]
    simp
   ·rw [Nat.min_eq_right (by omega)]
    simp
  simp only [Mi,Tr.val,hf]
  refine ⟨_,rfl,(z.1,z.2.1,z.2.2.1,z.2.2.2.1,z.2.2.2.2.1,z.2.2.2.2.2.1,z.2.2.2.2.2.2.1,z.2.2.2.2.2.2.2.1,z.2.2.2.2.2.2.2.2.1,z.2.2.2.2.2.2.2.2.2.1,z.2.2.2.2.2.2.2.2.2.2.1,z.2.2.2.2.2.2.2.2.2.2.2.1,z.2.2.2.2.2.2.2.2.2.2.2.2.1),?_,⟨?_,h8⟩,⟨h12.1,h12.2.1,h12.2.2.1,fun x hx=>(h10.2 x hx).2,h12.2.2.2⟩⟩
  ·obtain ⟨z0,z1,z2,z3,z4,z5,z6,z7,z8,z9,z10,z11,z12,z13⟩:=z
   cases z8
   cases z11
   rfl
  ·refine ⟨by show z.1.length≤_; omega,by show z.2.1.length≤_; omega,by show z.2.2.1.length≤_; omega,⟨by have:=h3.1; show length z.2.2.2.1≤_; omega,fun x hx=>by have:=h3.2 x hx; omega⟩,⟨by have:=h4.1; show length z.2.2.2.2.1≤_; omega,fun x hx=>by have:=h4.2 x hx; omega⟩,by show z.2.2.2.2.2.1.length≤_; omega,⟨by have:=h6.1; show length z.2.2.2.2.2.2.1≤_; omega,fun x hx=>by have:=h6.2 x hx; omega⟩,⟨by have:=h7.1; show length z.2.2.2.2.2.2.2.1≤_; omega,fun x hx=>by have:=h7.2 x hx; omega⟩,by show length z.2.2.2.2.2.2.2.2.2.1≤_; omega,⟨by have:=h10.1; show length z.2.2.2.2.2.2.2.2.2.2.1≤_; omega,fun x hx=>by have:=(h10.2 x hx).1; omega⟩,by show z.2.2.2.2.2.2.2.2.2.2.2.2.1.length≤_; omega⟩

theorem fs3 (z0:zu kB) (z1:zu dM) (z:zu Gj) (hz:F3I z0 0 z) (n:Nat) (hn:40≤n):∃ r,bE Mi n (.h3 0 z0 z1 z)=some r∧KK z0.1 r:=by
 refine jo (t:=Mi) (β:=zu Gj) (min 10 (length z0.1.2.2.2.2.2.2.2.1)) (fun z i=>.h3 (i:Int) z0 z1 z) (fun z i=>F3I z0 i z) (KK z0.1) 21 ?_ ?_ (min 10 (length z0.1.2.2.2.2.2.2.2.1)) 0 z n rfl (aZ _) hz (by omega)
 ·intro z i hi hb
  obtain ⟨h0,h1,h2,h3,h4,h5,h6,h7,h8⟩:=hb
  have k1:(i:Int) < (length z0.1.2.2.2.2.2.2.2.1:Int):=by omega
  have k2:(i:Int) < 10:=by omega
  have k3:zH (i:Int) (length z0.1.2.2.2.2.2.2.2.1)=true:=zN (by omega)
  refine Or.inl ⟨(z.1,z.2.1,z.2.2.1,z.2.2.2.1,z.2.2.2.2.1,z.2.2.2.2.2.1,z.2.2.2.2.2.2.1,z.2.2.2.2.2.2.2.1++[(bl (List.getD z0.1.2.2.2.2.2.2.2.1 (i:Int).toNat (zj bu)).1,bl (List.getD z0.1.2.2.2.2.2.2.2.1 (i:Int).toNat (zj bu)).2)],z.2.2.2.2.2.2.2.2),⟨h0,h1,h2,h3,h4,h5,h6,?_,h8⟩,?_⟩
  rotate_left 1
  ·simp only [Mi,Tr.val,dc k1,dc k2,bJ,if_true,k3,gF]
   rw [zG i (by unfold zD; omega),if_pos (by have:=h7.1; simp; omega)]
  ·refine ⟨?_,fun x hx=>?_⟩
   ·simp [h7.1]
   ·rcases bg.1 hx with hx | hx
    ·exact h7.2 x hx
    ·rw [bz] at hx
     rw [hx]; exact ⟨c9 _,c9 _⟩
 ·intro z n hb hn
  obtain ⟨n,rfl⟩:∃ k,n=k+1:=⟨n - 1,by omega⟩
  obtain ⟨h0,h1,h2,h3,h4,h5,h6,h7,h8,h9,h10,h11⟩:=hb
  rw [jn]
  have hf:(bif decide (((min 10 (length z0.1.2.2.2.2.2.2.2.1):Nat):Int) < (length z0.1.2.2.2.2.2.2.2.1:Int)) then decide (((min 10 (length z0.1.2.2.2.2.2.2.2.1):Nat):Int) < 10) else false)=false:=by
   by_cases h:10≤length z0.1.2.2.2.2.2.2.2.1
   ·rw [Nat.min_eq_left h]
    simp
   ·rw [Nat.min_eq_right (by omega)]
    simp
  simp only [Mi,Tr.val,hf]
  exact fs7 z0 z1 _ ⟨h0,h1,h2,h3,h4,h5,h6,⟨by have:=h7.1; show length z.2.2.2.2.2.2.2.1≤_; omega,h7.2⟩,h8,h9,⟨rfl,by simp⟩,h10,h11⟩ n (by omega)

theorem Ct (s:Sem zq):∃ s':Sem zq,tg s=some (s',())∧VL s'∧Nu s s':=by
 unfold tg aq cM
 simp only [i8p,Tr.val,gF,uQ,if_true]
 obtain ⟨r,h1,s',h2,h3⟩:=fs3 (s,()) ([],[],[],[],[],0,0,[],[],[],0,0,[],[],[],()) (bl s.1,bl s.2.1,bl s.2.2.1,eV s.2.2.2.1,kV s.2.2.2.2.1,
  bl s.2.2.2.2.2.1,eV s.2.2.2.2.2.2.1,[],dd (zC s.2.2.2.2.2.2.2.2.1),jp s.2.2.2.2.2.2.2.2.2.1,dd (zC s.2.2.2.2.2.2.2.2.2.2.2.1),bl s.2.2.2.2.2.2.2.2.2.2.2.2,())
  ⟨c9 _,c9 _,c9 _,qh _,Fk _,c9 _,qh _,⟨rfl,by simp⟩,Li _,Fl _,c9 _,by simp only [zt],rfl,by simp only [zt],rfl⟩ 100000000 (by omega)
 refine ⟨s',?_,h3⟩
 rw [h1]
 exact h2

theorem rO:wZ=some (true,()):=by kernel_rfl
theorem rN:rM=true:=by unfold rM; rw [rO]; rfl
theorem w3:pY=true:=by unfold pY; rw [rO]; rfl

theorem KZ {db:List (Sem zh)} {s:Sem zq} (hs:eu s) (hr:∀ x∈db,dX x) (h:¬ (fk s=true∧f7 db)):uF db s=some (db,wW 1,()):=by
 have h1:=ll hs
 have h2:=jI hr
 have h3:(bif !fk s then true else mK db != 0)=true:=by
  cases hm:fk s with
  | false=>rfl
  | true=>
   have:mK db≠(0:Int):=fun e=>h ⟨hm,(oQ hr).1 e⟩
   simpa using this
 have h4:(nf s&&bif !fk s then true else qL db)=true:=by
  rw [h1,h2]
  cases fk s <;> rfl
 have hv:(Xx db s).val=some (.inr (AV.tup [AV.sl zh db,AV.agg [AV.int .i64 1,AV.int .i64 0,AV.nils]],[])):=by
  simp only [Xx,Tr.val,zt,Prod.eta,h3,h4,if_true,ite_self]
 exact A3 hv rfl

theorem w4 {db:List (Sem zh)} {s:Sem zq} {n:List (Sem zh)} {a:Sem eI} (hs:eu s) (hr:∀ x∈db,dX x) (hm:fk s=true) (hB:f7 db) (ho:s.1=uh) (hc:fO (db,s)=some (n,a,())):
  uF db s=some (if a.1=0 then n else db,a,()):=by
 have h1:=ll hs
 have h2:=jI hr
 have h5:mK db=(0:Int):=(oQ hr).2 hB
 have q0:(s.1==[99,114,101,97,116,101])=false:=by rw [ho]; rfl
 have q1:(s.1==[100,114,111,112])=false:=by rw [ho]; rfl
 have q2:(s.1==[105,110,115,101,114,116])=false:=by rw [ho]; rfl
 have q3:(s.1==[117,112,100,97,116,101])=false:=by rw [ho]; rfl
 have q4:(s.1==[100,101,108,101,116,101])=false:=by rw [ho]; rfl
 have q5:(s.1==[115,101,108,101,99,116])=true:=by rw [ho]; rfl
 have hcc:rV (db,s)=true:=by unfold rV; rw [hc]; rfl
 have hcv:xf (db,s)=(n,a):=by unfold xf; rw [hc]; rfl
 unfold uF aq cM
 simp only [Xx,Tr.val,zt,Prod.eta,hm,h1,h2,h5,hcc,hcv,q0,q1,q2,q3,q4,q5,mn,cZ,vt,Bool.and_self,aI,if_true,if_false]
 by_cases h:a.1=0
 ·have h':(a.1 != 0)=false:=by simpa using h
  simp only [h',aI,if_false,if_pos h]
  rfl
 ·have h':(a.1 != 0)=true:=by simpa using h
  simp only [h',if_true,if_neg h]
  rfl
theorem K0 {db:List (Sem zh)} {s:Sem zq} {n:List (Sem zh)} {a:Sem eI} (hs:eu s) (hr:∀ x∈db,dX x) (hm:fk s=true) (hB:f7 db) (ho:s.1=qE) (hc:je (db,s)=some (n,a,())):
  uF db s=some (if a.1=0 then n else db,a,()):=by
 have h1:=ll hs
 have h2:=jI hr
 have h5:mK db=(0:Int):=(oQ hr).2 hB
 have q0:(s.1==[99,114,101,97,116,101])=false:=by rw [ho]; rfl
 have q1:(s.1==[100,114,111,112])=false:=by rw [ho]; rfl
 have q2:(s.1==[105,110,115,101,114,116])=false:=by rw [ho]; rfl
 have q3:(s.1==[117,112,100,97,116,101])=false:=by rw [ho]; rfl
 have q4:(s.1==[100,101,108,101,116,101])=true:=by rw [ho]; rfl
 have hcc:r6 (db,s)=true:=by unfold r6; rw [hc]; rfl
 have hcv:xh (db,s)=(n,a):=by unfold xh; rw [hc]; rfl
 unfold uF aq cM
 simp only [Xx,Tr.val,zt,Prod.eta,hm,h1,h2,h5,hcc,hcv,q0,q1,q2,q3,q4,mn,cZ,vt,Bool.and_self,aI,if_true,if_false]
 by_cases h:a.1=0
 ·have h':(a.1 != 0)=false:=by simpa using h
  simp only [h',aI,if_false,if_pos h]
  rfl
 ·have h':(a.1 != 0)=true:=by simpa using h
  simp only [h',if_true,if_neg h]
  rfl

theorem Aa {db:List (Sem zh)} {s:Sem zq} {n:List (Sem zh)} {a:Sem eI} (h:uF db s=some (n,a,())):Gh db s=true∧Wa db s=(n,a):=by
 unfold Gh Wa
 rw [h]
 exact ⟨rfl,rfl⟩
theorem eu.del {s:Sem zq} (h:eu s):eu ((qE,s.2):Sem zq):=⟨by simp,h.table,h.other,h.names,h.cols,h.key,h.uniques,h.refs,h.row,h.sets,h.role⟩

theorem LH (x0:List (Sem zh)) (x1:zn) (x2:ze):wv x0 x1 x2=some (true,()):=by
 obtain ⟨db,d1,d2,d3⟩:=H1 x0
 obtain ⟨s,s1,s2,s3⟩:=Ct ((uh,x1,[],[],[],[],[],[],ze.mk [] (0,0,[]) [] [],[],[],x2,[]):Sem zq)
 have hdb:wu x0=db:=by unfold wu; rw [d1]; rfl
 have hdc:Cv x0=true:=by unfold Cv; rw [d1]; rfl
 have hs:HZ ((uh,x1,[],[],[],[],[],[],ze.mk [] (0,0,[]) [] [],[],[],x2,[]):Sem zq)=s:=by unfold HZ; rw [s1]; rfl
 have hsc:Cr ((uh,x1,[],[],[],[],[],[],ze.mk [] (0,0,[]) [] [],[],[],x2,[]):Sem zq)=true:=by unfold Cr; rw [s1]; rfl
 have ho:s.1=uh:=by
  have:=congrArg (·.1) s3.fr
  exact this
 have hS:=s2.sh
 clear s1 s3 d1
 have fin:∀ {v:Bool},(Xu x0 x1 x2).val=some (.inr (.bool v,[]))→v=true→wv x0 x1 x2=some (true,()):=by
  intro v h e
  subst e
  exact A3 h rfl
 have bad:∀ (n:List (Sem zh)) (e:Int),e≠0→uF db s=some (n,wW e,())→wv x0 x1 x2=some (true,()):=by
  intro n e he h
  obtain ⟨h1,h2⟩:=Aa h
  have he':(e != 0)=true:=by simpa using he
  refine fin (v:=pY) ?_ w3
  simp only [Xu,Tr.val,zt,Prod.eta,hdb,hdc,hs,hsc,h1,h2,he',List.length_nil,rN,if_true]
  rfl
 by_cases hm:fk s=true∧f7 db
 case neg=>exact bad db 1 (by decide) (KZ hS d3 hm)
 obtain ⟨hm,hB⟩:=hm
 by_cases hf:LT.lt (α:=Int) (aE db s.2.1) 0
 ·refine bad db 6 (by decide) ?_
  exact w4 hS d3 hm hB ho (xg hf)
 obtain ⟨i,hi⟩:∃ i:Nat,aE db s.2.1=(i:Int):=⟨toNat (aE db s.2.1),(Int.toNat_of_nonneg (Int.not_lt.1 hf)).symm⟩
 obtain ⟨x,hx⟩:∃ x,x=db.getD i (zj zh):=⟨_,rfl⟩
 have hxm:x∈db:=by
  have:=sZ (db:=db) (s:=s.2.1) (by rw [hi]; omega)
  rw [hi,dp,← hx] at this
  exact this
 have hr:=hB.rels x hxm
 have hc:=rW hi hx.symm (g7 (d3 x hxm).rw (by omega)) (fun r h=>g7 (hr.len r h) (by omega))
 have hd:=w4 hS d3 hm hB ho hc
 by_cases h0:bZ (iq s) x.1.2.1=0
 case neg=>
  rw [if_neg h0,if_neg h0] at hd
  exact bad _ _ h0 hd
 simp only [h0,if_true] at hd
 obtain ⟨g1,g2⟩:=Aa hd
 have hmu:fk ((qE,s.2):Sem zq)=true:=Rz s.2 (by rw [← ho]; exact hS) hS.del (by rw [← ho]; exact hm)
 obtain ⟨b,b1,b2⟩:=BR (s:=((qE,s.2):Sem zq)) hB d3 hi hx.symm
 have hu:=K0 hS.del d3 hmu hB rfl b2
 have h0':bZ (iq ((qE,s.2):Sem zq)) x.1.2.1=0:=h0
 have hn:(((fS x (iq s)).length:Int) != ((fS x (iq s)).length:Int))=false:=by simp
 cases b with
 | false=>
  simp only [h0',if_true,aI,if_false] at hu
  obtain ⟨u1,u2⟩:=Aa hu
  refine fin (v:=pY) ?_ w3
  simp only [Xu,Tr.val,zt,Prod.eta,hdb,hdc,hs,hsc,g1,g2,u1,u2,hn,vt,rN,if_true,aI,if_false]
  rfl
 | true=>
  simp only [h0',if_true] at hu
  obtain ⟨u1,u2⟩:=Aa hu
  obtain ⟨k1,k2,k3,k4,k5⟩:=C0 hB hi hx.symm (b1.1 rfl)
  have hsx:=d3 x hxm
  have hc2:=rW (s:=s) k2 k3 (g7 (lp (p:=pS ((qE,s.2):Sem zq) x) hsx).rw (by omega)) (fun r h=>g7 (hr.len r (List.mem_filter.1 h).1) (by omega))
  have hd2:=w4 hS (wI d3 (lp hsx)) hm k1 ho hc2
  have h0'':bZ (iq s) (bC x (pS ((qE,s.2):Sem zq) x)).1.2.1=0:=h0
  have hmz:fS (bC x (pS ((qE,s.2):Sem zq) x)) (iq s)=[]:=k4
  simp only [h0'',hmz,if_true,List.length_nil] at hd2
  obtain ⟨w1,w2⟩:=Aa hd2
  refine fin (v:=pY) ?_ w3
  simp only [Xu,Tr.val,zt,Prod.eta,hdb,hdc,hs,hsc,g1,g2,u1,u2,w1,w2,hn,vt,beq_self_eq_true,bJ,rN,if_true,aI,if_false]
  rfl

abbrev U0:Nat→Prop:=fun _=>False
abbrev fX:Nat→Option Value:=fun _=>none

def FP (P:Program) (T:TypeId→Sh→Bool):List Field→Nat→Sh→Bool
 | [],_,_=>false
 | [f],off,s=>f.offset==off&&(T f.type s&&P.cellsOf f.type==s.size)
 | f::fs,off,.pr a b=>f.offset==off&&(T f.type a&&(P.cellsOf f.type==a.size&&FP P T fs (off+a.size) b))
 | _,_,_=>false

def lL (P:Program) (t:TypeId):Bool:=match P.underlying t with
 | some .string=>P.cellsOf t==1
 | _=>false

def DA (P:Program) (t e:TypeId):Bool:=match P.underlying t with
 | some (.slice u)=>u==e&&P.cellsOf t==1
 | _=>false

def C1 (P:Program):Nat→TypeId→Sh→Bool
 | 0,_,_=>false
 | n+1,t,s=>match P.underlying t,s with
  | some .bool,.bool=>true
  | some (.int k),.int k'=>k==k'
  | some .string,.str=>true
  | some (.slice e),.sl s=>P.cellsOf e==s.size&&(decide (0 < s.size)&&C1 P n e s)
  | some (.struct fs),.expr=>match fs.toList with
   | [a,b,c,d]=>P.cellsOf t==6&&(a.offset==0&&(b.offset==1&&(c.offset==4&&(d.offset==5&&(lL P a.type&&(lL P c.type&&(DA P d.type t&&(P.cellsOf b.type==3&&C1 P n b.type (.pr (.int .i64) (.pr (.int .i64) .str))))))))))
   | _=>false
  | some (.struct fs),.pr a b=>P.cellsOf t==(Sh.pr a b).size&&FP P (C1 P n) fs.toList 0 (.pr a b)
  | _,_=>false

section
variable {H:Type} {enc:TypeId×Value→H} {P:Program} {w:World} {sp:Nat→Bool} {held:Bool}

def Qf (w:World) (s:Sh) (cs:List Value):Prop:=∃ x:Sem s,bY w U0 fX (zl s x) cs∧∀ v∈cs,v.oneCell'=true

theorem bL {α β:Type} {f:α→Option β} {a:α} {l:List α} {r:List β} (h:(a::l).mapM f=some r):∃ y ys,f a=some y∧l.mapM f=some ys∧r=y::ys:=by
 rw [List.mapM_cons] at h
 cases hy:f a with
 | none=>rw [hy] at h; simp at h
 | some y=>
  cases hys:l.mapM f with
  | none=>rw [hy,hys] at h; simp at h
  | some ys=>
   rw [hy,hys] at h
   simp at h
   exact ⟨y,ys,rfl,rfl,h.symm⟩

theorem AW {α β:Type} {f:α→Option β}:∀ {l:List α} {r:List β},l.mapM f=some r→∀ x∈l,∃ y,f x=some y
 | [],_,_,_,hx=>by simp at hx
 | a::l,r,h,x,hx=>by
  obtain ⟨y,ys,h1,h2,_⟩:=bL h
  rcases eE.1 hx with rfl | hx
  ·exact ⟨y,h1⟩
  ·exact AW h2 x hx

theorem tk {α β:Type} {f:α→Option β}:∀ {l:List α} {r:List β},l.mapM f=some r→r.length=l.length∧∀ (i:Nat) a,l[i]?=some a→f a=r[i]?
 | [],r,h=>by simp at h; subst h; simp
 | a::l,r,h=>by
  obtain ⟨y,ys,h1,h2,rfl⟩:=bL h
  obtain ⟨h3,h4⟩:=tk h2
  refine ⟨by simp [h3],fun i b hi=>?_⟩
  cases i with
  | zero=>simp at hi; subst hi; simpa using h1
  | succ i=>simpa using h4 i b (by simpa using hi)

theorem yU (a:Addr) (h:a.spot=none) (n:Nat):a.add n=⟨a.block,a.off+n,none⟩:=by
 obtain ⟨b,o,s⟩:=a
 simp only at h
 subst h
 unfold Addr.add
 split
 ·rename_i h; subst h; rfl
 ·rfl

theorem bY.take {cs:List AV} {vs:List Value} (h:bY w U0 fX cs vs) (n:Nat):bY w U0 fX (cs.take n) (vs.take n):=by
 refine ⟨by simp [h.len],fun j c v hc hv=>?_⟩
 rw [vq] at hc hv
 split at hc
 ·rename_i hj
  rw [if_pos hj] at hv
  exact h.rv j c v hc hv
 ·cases hc

theorem bY.appS {a b:List AV} {x y:List Value} (h:bY w U0 fX a x) (h':bY w U0 fX b y):bY w U0 fX (a++b) (x++y):=by
 refine ⟨by simp [h.len,h'.len],fun j c v hc hv=>?_⟩
 by_cases hj:j < a.length
 ·rw [iK hj] at hc
  rw [iK (by rw [← h.len]; exact hj)] at hv
  exact h.rv j c v hc hv
 ·rw [jG (by omega)] at hc
  rw [jG (by rw [← h.len]; omega),← h.len] at hv
  exact h'.rv _ c v hc hv

theorem bY.one {c:AV} {v:Value} (h:Rv w U0 fX c v):bY w U0 fX [c] [v]:=by
 refine ⟨rfl,fun j d u hd hu=>?_⟩
 cases j with
 | zero=>simp at hd hu; subst hd; subst hu; exact h
 | succ j=>simp at hd

theorem sW {fuel:Nat} {T:TypeId→Sh→Bool} (hT:∀ t s cs d ps,T t s=true→DataW.trod enc P w 0 sp held fuel t cs=some (d,ps)→Qf w s cs) {cs:List Value}:
  ∀ (fl:List Field) (off:Nat) (s:Sh) xs,FP P T fl off s=true→(fl.mapM fun f=>DataW.trod enc P w 0 sp held fuel f.type ((cs.drop f.offset).take (P.cellsOf f.type)))=some xs→Qf w s ((cs.drop off).take s.size)
 | [],_,_,_,h,_=>by simp [FP] at h
 | [f],off,s,xs,h,hm=>by
  simp only [FP,aC,ee] at h
  obtain ⟨h1,h2,h3⟩:=h
  obtain ⟨y,ys,hy,_,_⟩:=bL hm
  rw [h1,h3] at hy
  exact hT _ _ _ _ _ h2 hy
 | f::g::fs,off,.pr a b,xs,h,hm=>by
  simp only [FP,aC,ee] at h
  obtain ⟨h1,h2,h3,h4⟩:=h
  obtain ⟨y,ys,hy,hys,_⟩:=bL hm
  rw [h1,h3] at hy
  obtain ⟨x1,r1,o1⟩:=hT _ _ _ _ _ h2 hy
  obtain ⟨x2,r2,o2⟩:=sW hT (g::fs) (off+a.size) b ys h4 hys
  have hl1:((cs.drop off).take a.size).length=a.size:=by rw [← r1.len,zK]
  have hsplit:(cs.drop off).take (a.size+b.size)=(cs.drop off).take a.size++(cs.drop (off+a.size)).take b.size:=by
   rw [List.take_add,List.drop_drop]
  refine ⟨(x1,x2),?_,?_⟩
  ·show bY w U0 fX (zl a x1++zl b x2) ((cs.drop off).take (a.size+b.size))
   rw [hsplit]
   exact r1.appS r2
  ·intro v hv
   have hv:v∈(cs.drop off).take (a.size+b.size):=hv
   rw [hsplit,bg] at hv
   exact hv.elim (o1 v) (o2 v)
 | _::_::_,_,.unit,_,h,_=>by simp [FP] at h
 | _::_::_,_,.bool,_,h,_=>by simp [FP] at h
 | _::_::_,_,.int _,_,h,_=>by simp [FP] at h
 | _::_::_,_,.str,_,h,_=>by simp [FP] at h
 | _::_::_,_,.sl _,_,h,_=>by simp [FP] at h
 | _::_::_,_,.expr,_,h,_=>by simp [FP] at h

theorem wK {fuel:Nat} {t e:TypeId} {s:Sh} (ht:P.underlying t=some (.slice e)) (hc:P.cellsOf e=s.size) (hpos:0 < s.size)
  (hT:∀ cs d ps,DataW.trod enc P w 0 sp held fuel e cs=some (d,ps)→Qf w s cs) {cs:List Value} {d:DataW H} {ps:List MemPlace} (h:DataW.trod enc P w 0 sp held (fuel+1) t cs=some (d,ps)):Qf w (.sl s) cs:=by
 unfold DataW.trod at h
 rw [ht] at h
 split at h
 all_goals first
  | (rename_i hu; cases hu; done)
  | (rename_i hu _; cases hu; done)
  | (simp at h; done)
  | skip
 ·rename_i hu
  cases hu
  exact ⟨[],bY.one (.sl0 s none 0),by simp [Value.oneCell']⟩
 ·rename_i a len cap hu
  cases hu
  simp only [aZ,true_and] at h
  split at h
  ·rename_i hcond
   rw [dT] at h
   obtain ⟨elems,he,_⟩:=h
   have hall:∀ i,∃ x:Sem s,i < len→∃ ci,w.cells? 0 (a.add (i * s.size)) s.size=some ci∧bY w U0 fX (zl s x) ci:=by
    intro i
    by_cases hi:i < len
    ·obtain ⟨y,hy⟩:=AW he i (by simpa using hi)
     rw [dT] at hy
     obtain ⟨ci,h1,h2⟩:=hy
     obtain ⟨x,hx,_⟩:=hT ci y.1 y.2 h2
     rw [hc] at h1
     exact ⟨x,fun _=>⟨ci,h1,hx⟩⟩
    ·exact ⟨zj s,fun h=>(hi h).elim⟩
   obtain ⟨X,hX⟩:=Classical.axiomOfChoice hall
   have hmax:maxLen=zD:=rfl
   cases len with
   | zero=>exact ⟨[],bY.one (.sl0 s (some a) cap),by simp [Value.oneCell']⟩
   | succ len=>
    have hcell:∀ i,i < len+1→∃ ci,ci.length=s.size∧(∀ j,j < s.size→w.cell? ((a.add (i * s.size)).add j)=ci[j]?)∧bY w U0 fX (zl s (X i)) ci:=by
     intro i hi
     obtain ⟨ci,h1,h2⟩:=hX i hi
     unfold World.cells? at h1
     rw [if_pos (aZ _)] at h1
     obtain ⟨h3,h4⟩:=tk h1
     refine ⟨ci,by simpa using h3,fun j hj=>?_,h2⟩
     exact h4 j j (by simp [hj])
    have hspot:a.spot=none:=by
     obtain ⟨ci,h1,h2,_⟩:=hcell 0 (by omega)
     have:=h2 0 hpos
     simp only [Nat.zero_mul,Addr.add,if_true] at this
     rw [zJ (by omega)] at this
     unfold World.cell? at this
     split at this
     ·split at this
      ·cases this
      ·rename_i hs
       cases hsp:a.spot with
       | none=>rfl
       | some q=>rw [hsp] at hs; simp at hs
     ·cases this
    have hblk:a.block < w.heap.size:=by
     obtain ⟨ci,h1,h2,_⟩:=hcell 0 (by omega)
     have:=h2 0 hpos
     simp only [Nat.zero_mul,Addr.add,if_true] at this
     rw [zJ (by omega)] at this
     have ha:a=⟨a.block,a.off,none⟩:=by rw [← hspot]
     rw [ha] at this
     exact w7 this
    have hci:∀ i,∃ ci:List Value,i < len+1→ci.length=s.size∧(∀ j,j < s.size→w.cell? ⟨a.block,a.off+i * s.size+j,none⟩=ci[j]?)∧bY w U0 fX (zl s (X i)) ci:=by
     intro i
     by_cases hi:i < len+1
     ·obtain ⟨ci,h1,h2,h3⟩:=hcell i hi
      refine ⟨ci,fun _=>⟨h1,fun j hj=>?_,h3⟩⟩
      rw [← h2 j hj,yU a hspot,yU _ rfl]
     ·exact ⟨[],fun h=>(hi h).elim⟩
    obtain ⟨Cs,hCs⟩:=Classical.axiomOfChoice hci
    let l:List (Sem s):=(List.range (len+1)).map X
    have hl:l.length=len+1:=by simp [l]
    have hget:∀ i (hi:i < l.length),l[i]=X i:=by intro i hi; simp [l]
    refine ⟨l,bY.one ?_,by simp [Value.oneCell']⟩
    have ha:a=⟨a.block,a.off,none⟩:=by rw [← hspot]
    rw [ha,← hl]
    refine .sl s l a.block a.off cap (fun i j=>((Cs i)[j]?).getD undef) (by omega) (by omega) hblk (fun h=>h) ?_ ?_
    ·intro i j hi hj
     obtain ⟨h1,h2,_⟩:=hCs i (by omega)
     rw [h2 j hj,zJ (by omega)]
     rfl
    ·intro i hi j c hc'
     obtain ⟨h1,_,h3⟩:=hCs i (by omega)
     rw [hget i hi] at hc'
     have hj:j < (Cs i).length:=by
      have:=(bw.1 hc').1
      rw [h3.len] at this
      exact this
     have:=h3.rv j c _ hc' (zJ hj)
     rw [zJ hj]
     exact this
  ·cases h

theorem yv {fuel:Nat} {t:TypeId} (ht:P.underlying t=some .string) {cs:List Value} {d:DataW H} {ps:List MemPlace} (h:DataW.trod enc P w 0 sp held fuel t cs=some (d,ps)):Qf w .str cs:=by
 cases fuel with
 | zero=>simp [DataW.trod] at h
 | succ fuel=>
  unfold DataW.trod at h
  rw [ht] at h
  split at h
  all_goals first
   | (rename_i hu; cases hu; done)
   | (rename_i hu _; cases hu; done)
   | (simp at h; done)
   | skip
  rename_i s hu
  split at h
  ·rename_i hs
   refine ⟨s.data.toList,bY.one ?_,by simp [Value.oneCell']⟩
   have h9:maxLen=zD:=rfl
   have h8:s.size=s.data.toList.length:=rfl
   exact .str s.data.toList (by omega)
  ·cases h

theorem td {t:TypeId} (h:lL P t=true):P.underlying t=some .string∧P.cellsOf t=1:=by
 unfold lL at h
 split at h
 ·rename_i hu; exact ⟨hu,by simpa using h⟩
 ·cases h

theorem Hx {t e:TypeId} (h:DA P t e=true):P.underlying t=some (.slice e)∧P.cellsOf t=1:=by
 unfold DA at h
 split at h
 ·rename_i u hu
  simp only [aC,ee] at h
  rw [← h.1]
  exact ⟨hu,h.2⟩
 ·cases h

theorem lq:∀ (fuel n:Nat) (t:TypeId) (s:Sh) (cs:List Value) (d:DataW H) (ps:List MemPlace),C1 P n t s=true→DataW.trod enc P w 0 sp held fuel t cs=some (d,ps)→Qf w s cs
 | 0,_,_,_,_,_,_,_,h=>by simp [DataW.trod] at h
 | fuel+1,0,_,_,_,_,_,hty,_=>by simp [C1] at hty
 | fuel+1,n+1,t,s,cs,d,ps,hty,h=>by
  have h0:=h
  unfold C1 at hty
  split at hty
  ·rename_i hu
   unfold DataW.trod at h
   rw [hu] at h
   split at h
   all_goals first
    | (rename_i hu'; cases hu'; done)
    | (rename_i hu' _; cases hu'; done)
    | (simp at h; done)
    | skip
   exact ⟨_,bY.one (.bool _),by simp [Value.oneCell']⟩
  ·rename_i k k' hu
   have hk:k=k':=by simpa using hty
   subst hk
   unfold DataW.trod at h
   rw [hu] at h
   split at h
   all_goals first
    | (rename_i hu'; cases hu'; done)
    | (rename_i hu' _; cases hu'; done)
    | (simp at h; done)
    | skip
   rename_i k1 k2 m hu'
   cases hu'
   split at h
   ·rename_i hw
    obtain ⟨rfl,hw⟩:=hw
    simp only [Lit.wf,aC,ae] at hw
    exact ⟨m,bY.one (.int _ _ ⟨hw.1,hw.2⟩),by simp [Value.oneCell']⟩
   ·cases h
  ·rename_i hu
   exact yv hu h
  ·rename_i e s hu
   simp only [aC,ee,ae] at hty
   exact wK hu hty.1 hty.2.1 (fun cs d ps h=>lq fuel n e s cs d ps hty.2.2 h) h
  ·rename_i fs hu
   split at hty
   ·rename_i a b c d' hfs
    simp only [aC,ee] at hty
    obtain ⟨hsz,ha,hb,hc,hd,sa,sc,sd,zb,tb⟩:=hty
    obtain ⟨sa,za⟩:=td sa
    obtain ⟨sc,zc⟩:=td sc
    obtain ⟨sd,zd⟩:=Hx sd
    unfold DataW.trod at h
    rw [hu] at h
    simp only at h
    split at h
    ·rename_i hlen
     rw [cG] at h
     obtain ⟨xs,hm,_⟩:=h
     rw [hfs] at hm
     obtain ⟨ya,r1,ya1,hm,_⟩:=bL hm
     obtain ⟨yb,r2,yb1,hm,_⟩:=bL hm
     obtain ⟨yc,r3,yc1,hm,_⟩:=bL hm
     obtain ⟨yd,r4,yd1,hm,_⟩:=bL hm
     rw [ha,za] at ya1
     rw [hb,zb] at yb1
     rw [hc,zc] at yc1
     rw [hd,zd] at yd1
     obtain ⟨xa,ga,oa⟩:=yv sa ya1
     obtain ⟨xb,gb,ob⟩:=lq fuel n b.type _ _ _ _ tb yb1
     obtain ⟨xc,gc,oc⟩:=yv sc yc1
     have hgd:Qf w (.sl .expr) ((cs.drop 5).take 1):=by
      cases fuel with
      | zero=>simp [DataW.trod] at yd1
      | succ fuel=>
       refine wK sd (by rw [hsz]; rfl) (by decide) (fun cs d ps h=>lq fuel (n+1) t .expr cs d ps ?_ h) yd1
       unfold C1
       rw [hu]
       simp only [hfs,aC,ee]
       refine ⟨hsz,ha,hb,hc,hd,?_,?_,?_,zb,tb⟩
       ·simp [lL,sa,za]
       ·simp [lL,sc,zc]
       ·simp [DA,sd,zd]
     obtain ⟨xd,gd,od⟩:=hgd
     have hl6:cs.length=6:=by rw [hlen,hsz]
     have hcs:cs=(cs.drop 0).take 1++((cs.drop 1).take 3++((cs.drop 4).take 1++(cs.drop 5).take 1)):=by
      match cs,hl6 with
      | [v0,v1,v2,v3,v4,v5],_=>rfl
     refine ⟨ze.mk xa xb xc xd,?_,?_⟩
     ·have hr:=ga.appS (gb.appS (gc.appS gd))
      rw [← hcs] at hr
      exact hr
     ·intro v hv
      rw [hcs] at hv
      simp only [bg] at hv
      rcases hv with hv | hv | hv | hv
      ·exact oa v hv
      ·exact ob v hv
      ·exact oc v hv
      ·exact od v hv
    ·cases h
   ·cases hty
  ·rename_i fs a b hu
   simp only [aC,ee] at hty
   unfold DataW.trod at h
   rw [hu] at h
   simp only at h
   split at h
   ·rename_i hlen
    rw [cG] at h
    obtain ⟨xs,hm,_⟩:=h
    have:=sW (fun t s cs d ps h1 h2=>lq fuel n t s cs d ps h1 h2) fs.toList 0 (.pr a b) xs hty.2 hm
    rw [List.drop_zero,Dc (by rw [hlen,hty.1]; exact bV _)] at this
    exact this
   ·cases h
  ·cases hty
termination_by fuel=>fuel

theorem qJ {n:Nat} {t:TypeId} {s:Sh} {v:Value} {d:DataW H} {ps:List MemPlace} (hty:C1 P n t s=true) (h:DataW.Trod enc P w 0 sp held t v d ps) (hagg:(∃ cs,v=.agg cs)↔s.isAgg=true) (hsc:s.isAgg=false→v.cells = #[v]):∃ x:Sem s,Rv w U0 fX (zy s x) v:=by
 obtain ⟨fuel,h⟩:=h
 obtain ⟨x,hr,ho⟩:=lq fuel n t s _ d ps hty h
 refine ⟨x,?_⟩
 unfold zy
 cases hs:s.isAgg with
 | true=>
  obtain ⟨cs,rfl⟩:=hagg.2 hs
  simp only
  have:=Rv.agg (w:=w) (U:=U0) (ρ:=fX) (zl s x) cs.toList hr.len ho hr.rv
  simpa using this
 | false=>
  simp only
  rw [hsc hs] at hr
  have hlen:=hr.len
  match he:zl s x,hlen with
  | [c],_=>
   rw [he] at hr
   exact hr.rv 0 c v rfl rfl
end
open Go Go.RowKit Go.ChangeShapes

theorem xM {W W':World} (hos:W'.os=W.os) (hout:W'.output=W.output) (h:∀ b,b < W.heap.size→W'.heap[b]?=W.heap[b]?) (may:MemPlace→Prop):W.keptBut W' may:=by
 refine ⟨hos,hout,fun i hi=>?_⟩
 rw [h i hi]
 cases W.heap[i]? with
 | none=>rfl
 | some o=>
  cases o with
  | cells c t fr=>exact ⟨rfl,rfl,rfl,fun _ _=>rfl⟩
  | map es clock=>exact .inr ⟨rfl,rfl⟩
  | _=>rfl

section
variable {H:Type} {enc:TypeId×Value→H} {P:Program}

theorem A4 {f:Func} {s:ChangeSpec} {fresh handsOn again:Bool} {W W':World} {args:Array Value} {v:Value} {ds gs:List (DataW H)} {before pa pv:List MemPlace}
  (hW:DataW.Whole enc P f.params.toList s.vars false W args.toList ds gs before)
  (hres:∀ (b:Nat) (sp:Nat→Bool) (hd:Bool),DataW.TrodAll enc P W' b sp hd f.resultTypes.toList (v.resultList f.resultTypes.size) (s.fn H (ds++gs)).results [])
  (hargs:∀ sp:Nat→Bool,(∀ p∈before,sp p.block=true)→DataW.TrodAll enc P W' 0 sp true f.params.toList args.toList (s.fn H (ds++gs)).args pa)
  (hvars:∀ sp:Nat→Bool,(∀ p∈before,sp p.block=true)→DataW.TrodVars enc P W' sp s.vars (s.fn H (ds++gs)).vars pv)
  (hps:before=pa++pv) (hk:W.keptBut W' (· ∈ before)) (hfz:∀ a:Addr,a.block < W.heap.size→W'.frozen? a=W.frozen? a)
  (hok:∀ (j:Nat) (t:TypeId) (r:Value),f.resultTypes[j]?=some t→(v.resultList f.resultTypes.size)[j]?=some r→Value.okWide P W' .any 0 t r):
  s.post enc P f false fresh handsOn again W args v W':=by
 have hold:∀ p∈before,(fun b=>decide (b < W.heap.size)) p.block=true:=fun p hp=>by simpa using hW.lt p hp
 have hlt:=hW.lt
 refine ⟨ds,gs,before,[],pa,pv,hW,hres _ _ _,hargs _ hold,hvars _ hold,World.keptBut_mono (fun p hp=>⟨hp,?_⟩) hk,fun _=>?_⟩
 ·rw [hps,bg] at hp
  exact Or.inr hp
 ·obtain ⟨_,_,_,_,_,hz,hn⟩:=hW
  refine ⟨hok,_,_,([]++pa)++pv,⟨[]++pa,pv,trodAll_append (hargs _ (fun _ _=>rfl)) (hres _ _ _),hvars _ (fun _ _=>rfl),rfl,?_,?_⟩,?_⟩
  ·intro b off hp
   have hp':MemPlace.cell b off∈before:=by rw [hps]; simpa using hp
   rw [hfz ⟨b,off,none⟩ (hlt _ hp')]
   exact hz b off hp'
  ·intro ha
   cases ha
  ·intro p hp _
   rw [hps]
   simpa using hp

theorem Fr {W:World} {r:Go.Reach} {b:Nat} {t:TypeId} {fs:Array Field} {v:Value} (ht:P.underlying t=some (.struct fs)) (h:Value.okWide P W r b t v):∃ cs,v=.agg cs:=by
 unfold Value.okWide at h
 rw [ht] at h
 obtain ⟨cs,rfl,_⟩:=h
 exact ⟨cs,rfl⟩

theorem Is {W:World} {r:Go.Reach} {b:Nat} {t e:TypeId} {v:Value} (ht:P.underlying t=some (.slice e)) (h:Value.okWide P W r b t v):∃ a n c,v=.slice a n c:=by
 unfold Value.okWide at h
 rw [ht] at h
 simp only at h
 unfold Cell.okWide at h
 rw [ht] at h
 unfold Cell.ok at h
 rw [ht] at h
 cases v <;> simp at h
 exact ⟨_,_,_,rfl⟩

theorem RZ {W:World} {r:Go.Reach} {b:Nat} {t:TypeId} {k:IntKind} {v:Value} (ht:P.underlying t=some (.int k)) (h:Value.okWide P W r b t v):∃ n,v=.int k n:=by
 unfold Value.okWide at h
 rw [ht] at h
 simp only at h
 unfold Cell.okWide at h
 rw [ht] at h
 unfold Cell.ok at h
 rw [ht] at h
 cases v <;> simp at h
 exact ⟨_,by rw [h.1]⟩

theorem Ch {W:World} {r:Go.Reach} {b n:Nat} {t:TypeId} {fs:Array Field} {s:Sh} {v:Value} {d:DataW H} {ps:List MemPlace} (hty:C1 P n t s=true) (hs:s.isAgg=true) (ht:P.underlying t=some (.struct fs)) (hok:Value.okWide P W r b t v)
  (h:DataW.Trod enc P W 0 (fun _=>true) true t v d ps):∃ x:Sem s,Rv W U0 fX (zy s x) v:=by
 refine qJ hty h ⟨fun _=>hs,fun _=>Fr ht hok⟩ (fun h'=>?_)
 rw [hs] at h'; cases h'
theorem Fh {W:World} {r:Go.Reach} {b n:Nat} {t e:TypeId} {s:Sh} {v:Value} {d:DataW H} {ps:List MemPlace} (hty:C1 P n t (.sl s)=true) (ht:P.underlying t=some (.slice e)) (hok:Value.okWide P W r b t v)
  (h:DataW.Trod enc P W 0 (fun _=>true) true t v d ps):∃ x:List (Sem s),Rv W U0 fX (.sl s x) v:=by
 obtain ⟨a,m,c,rfl⟩:=Is ht hok
 exact qJ (s:=.sl s) hty h ⟨(fun ⟨_,hh⟩=>(by cases hh)),(fun hh=>(by cases hh))⟩ (fun _=>rfl)
theorem Lv {W:World} {r:Go.Reach} {b n:Nat} {t:TypeId} {k:IntKind} {v:Value} {d:DataW H} {ps:List MemPlace} (hty:C1 P n t (.int k)=true) (ht:P.underlying t=some (.int k)) (hok:Value.okWide P W r b t v)
  (h:DataW.Trod enc P W 0 (fun _=>true) true t v d ps):∃ x:Int,Rv W U0 fX (.int k x) v:=by
 obtain ⟨m,rfl⟩:=RZ ht hok
 exact qJ (s:=.int k) hty h ⟨(fun ⟨_,hh⟩=>(by cases hh)),(fun hh=>(by cases hh))⟩ (fun _=>rfl)

theorem BO {gl:Nat→AV} {k:FuncId} {F:zB} (hF:kx P gl k F) {W:World} {fm:List AV} {args:Array Value} (hgl:uy gl W U0) (hr:bY W U0 fX fm args.toList) (hv:(F fm (fun _=>.dead) 0).val=some { val:=.bool true }) (hid:AV.idsL fm=[]):
  Calls P k args W fun e W'=>e=.returned (.bool true)∧iI W W'∧∀ b,b < W.heap.size→W'.heap[b]?=W.heap[b]?:=by
 have:=(hF.calls W U0 fX (fun _=>.dead) 0 fm args.toList _ [] hv hr (fun _ h=>h.elim) hgl ⟨by simp,by simp⟩ (by rw [hid]; simp) (by simp) (by simp)).1
 rw [show args.toList.toArray=args by simp] at this
 refine this.mono ?_
 rintro e w' ⟨v,U',ρ',rfl,hef⟩
 have hv':=hef.val
 cases hv'
 exact ⟨rfl,hef.ext,fun b hb=>hef.same b hb (by simp)⟩
end

theorem Md (x:zw ([.sl zh,.str,.expr].map some)) {W:World} {vs:List Value} (_:bY W U0 fX (fm ([.sl zh,.str,.expr].map some) x) vs):(ZB (fm ([.sl zh,.str,.expr].map some) x) (fun _=>.dead) 0).val=some { val:=.bool true }:=by
 obtain ⟨db,n,e,u⟩:=x
 have h:(ZB [.sl zh db,.str n,zy .expr e] (fun _=>.dead) 0).val=(Tr.chk (wv db n (zC e)).isSome (Tr.ok ({ val:=.bool ((wv db n (zC e)).getD (bD [.bool])).1 }:dK))).val:=by kernel_rfl
 show (ZB [.sl zh db,.str n,zy .expr e] (fun _=>.dead) 0).val=_
 rw [h,zt,LH]
 rfl
open Go Go.Proofs Go.RowKit Go.ChangeShapes Go.WideShapes Go.ChangeAt Go.Proofs.YtiefilkilbdpgaaGreatDoor

theorem AT {P:Program} {w:World}:∀ {l:List (String×DataW Unit)} {ps:List MemPlace},DataW.LaidVars P w l ps→∀ n d,(n,d)∈l→
  ∃ g t cs fuel p,P.globalNamed n=some g∧(P.globals[g]?).map (·.type)=some t∧w.var? P n=some cs∧DataW.trod (fun _=>()) P w 0 (fun _=>true) false fuel t cs.toList=some (d,p)
 | [],_,_,_,_,h=>by simp at h
 | (n0,d0)::r,ps,h,n,d,hm=>by
  obtain ⟨g,t,cs,fuel,p,q,h1,h2,h3,h4,h5,_⟩:=h
  rcases eE.1 hm with e | hm
  ·cases e
   exact ⟨g,t,cs,fuel,p,h1,h2,h3,h4⟩
  ·exact AT h5 n d hm

theorem xN {P:Program} {l:List (String×DataW Unit)} {w:World} (hf:(l.filter fun x=>x.2.handleName?.isSome).isEmpty=true) (h:laidMetH P l w):laidMet P l w:=by
 unfold laidMetH at h
 split at h
 ·exact h
 ·rename_i a b hab
  rw [hab] at hf
  simp at hf

theorem lr {H:Type} {enc:TypeId×Value→H} {P:Program} {w:World} {base:Nat} {sp:Nat→Bool} {held:Bool} {fuel:Nat} {t:TypeId} (ht:P.underlying t=some .string) {cs:List Value} {b:List UInt8} {p:List MemPlace}
  (h:DataW.trod enc P w base sp held fuel t cs=some (.lit (.string b),p)):cs=[.string ⟨b.toArray⟩]:=by
 cases fuel with
 | zero=>simp [DataW.trod] at h
 | succ fuel=>
  unfold DataW.trod at h
  rw [ht] at h
  split at h
  all_goals first
   | (rename_i hu; cases hu; done)
   | (rename_i hu _; cases hu; done)
   | (simp at h; done)
   | skip
  rename_i s hu
  split at h
  ·simp only [zZ,bp,DataW.lit.injEq,Lit.string.injEq] at h
   rw [← h.1]
  ·cases h

theorem JE {H:Type} {enc:TypeId×Value→H} {P:Program} {w:World} {base:Nat} {sp:Nat→Bool} {held:Bool} {fuel:Nat} {t:TypeId} (ht:P.underlying t=some (.int .u64)) {cs:List Value} {z:Int} {p:List MemPlace}
  (h:DataW.trod enc P w base sp held fuel t cs=some (.lit (.int .u64 z),p)):cs=[.int .u64 z]:=by
 cases fuel with
 | zero=>simp [DataW.trod] at h
 | succ fuel=>
  unfold DataW.trod at h
  rw [ht] at h
  split at h
  all_goals first
   | (rename_i hu; cases hu; done)
   | (rename_i hu _; cases hu; done)
   | (simp at h; done)
   | skip
  all_goals (try split at h)
  all_goals first
   | (cases h; done)
   | (simp at h; done)
   | skip
  all_goals simp_all

theorem vA {W:World} {l:List (String×DataW Unit)} (h:laidMet Tryz.prog l W) {name:String} {g:Nat} {t e:TypeId} {len:Nat} {ds:List (DataW Unit)} (hm:(name,DataW.agg ds)∈l)
  (hg:Tryz.prog.globalNamed name=some g) (ht:(Tryz.prog.globals[g]?).map (·.type)=some t) (hu:Tryz.prog.underlying t=some (.array len e)) (hc:Tryz.prog.cellsOf e=1):
  ∃ cs T fr,W.heap[g]?=some (.cells cs T fr)∧∀ (j:Nat) d,ds[j]?=some d→∃ fuel p,DataW.trod (fun _=>()) Tryz.prog W 0 (fun _=>true) false fuel e ((cs.toList.drop j).take 1)=some (d,p):=by
 obtain ⟨ps,hL,_,_⟩:=h
 obtain ⟨g',t',cs,fuel,p,h1,h2,h3,h4⟩:=AT hL name _ hm
 rw [hg] at h1
 cases h1
 rw [ht] at h2
 cases h2
 have hvar:∃ T fr,W.heap[g]?=some (.cells cs T fr):=by
  unfold World.var? at h3
  rw [hg] at h3
  simp only [Option.bind_some] at h3
  split at h3
  ·rename_i c T fr hh
   cases h3
   exact ⟨T,fr,hh⟩
  ·cases h3
 obtain ⟨T,fr,hblk⟩:=hvar
 refine ⟨cs,T,fr,hblk,?_⟩
 cases fuel with
 | zero=>simp [DataW.trod] at h4
 | succ fuel=>
  unfold DataW.trod at h4
  rw [hu] at h4
  simp only at h4
  split at h4
  ·rw [cG] at h4
   obtain ⟨xs,hm',hx⟩:=h4
   simp only [bp,DataW.agg.injEq] at hx
   obtain ⟨hl,hg'⟩:=tk hm'
   intro j d hj
   rw [← hx.1,cP,cG] at hj
   obtain ⟨⟨d',p'⟩,hj,rfl⟩:=hj
   have hjl:j < xs.length:=(bw.1 hj).1
   have hr:(List.range len)[j]?=some j:=by
    rw [vp]
    rw [hl,List.length_range] at hjl
    exact hjl
   have:=hg' j j hr
   rw [hj,hc,Nat.mul_one] at this
   exact ⟨fuel,p',this⟩
  ·cases h4

theorem Ev {cs:Array Value} {j:Nat} {v:Value} (h:(cs.toList.drop j).take 1=[v]):cs[j]?=some v:=by
 have:=congrArg (·[0]?) h
 simp only [vq,ml] at this
 simpa using this

theorem gl0 {W:World} {l:List (String×DataW Unit)} (h:laidMet Tryz.prog l W) (hm:("caddis/stmt.types",Rows.laid_caddis_stmt_types)∈l):Rv W U0 fX (.eptr [.str [73,78,84],.str [84,69,88,84],.str [66,79,79,76]] 0) (.pointer (some ⟨0,0,none⟩)):=by
 obtain ⟨cs,T,fr,hb,hd⟩:=vA h (g:=0) (t:=248) (e:=9) (len:=3) hm (by kernel_rfl) (by kernel_rfl) (by kernel_rfl) (by kernel_rfl)
 have hs9:Tryz.prog.underlying 9=some .string:=by kernel_rfl
 have hcell:∀ j,W.cell? ⟨0,j,none⟩=cs[j]?:=by
  intro j
  unfold World.cell?
  rw [hb]
  rfl
 obtain ⟨_,_,g0⟩:=hd 0 _ rfl
 obtain ⟨_,_,g1⟩:=hd 1 _ rfl
 obtain ⟨_,_,g2⟩:=hd 2 _ rfl
 have w0:=Ev (lr hs9 g0)
 have w1:=Ev (lr hs9 g1)
 have w2:=Ev (lr hs9 g2)
 refine .eptr [.str [73,78,84],.str [84,69,88,84],.str [66,79,79,76]] 0 0 0 (fun j=>match j with
  | 0=>.string ⟨#[73,78,84]⟩
  | 1=>.string ⟨#[84,69,88,84]⟩
  | _=>.string ⟨#[66,79,79,76]⟩) (w7 (by rw [hcell]; exact w0)) (fun h=>h) ?_ ?_ ?_
 ·intro j hj
  match j,hj with
  | 0,_=>rw [hcell]; exact w0
  | 1,_=>rw [hcell]; exact w1
  | 2,_=>rw [hcell]; exact w2
 ·intro j hj
  match j,hj with
  | 0,_=>rfl
  | 1,_=>rfl
  | 2,_=>rfl
 ·intro j c hc
  match j,hc with
  | 0,hc=>simp at hc; subst hc; exact .str [73,78,84] (by simp [zD])
  | 1,hc=>simp at hc; subst hc; exact .str [84,69,88,84] (by simp [zD])
  | 2,hc=>simp at hc; subst hc; exact .str [66,79,79,76] (by simp [zD])
  | j+3,hc=>simp at hc

set_option maxRecDepth 100000 in
theorem gl2 {W:World} (h:W.ShapedOpen Tryz.prog):Rv W U0 fX .gint (.pointer (some ⟨2,0,none⟩)):=by
 have h0:((begin Tryz.prog (fun _ _=>0) default).world.heap[2]?).bind Obj.row?=some (#[.int .i64 0],3):=by kernel_rfl
 obtain ⟨cs,hh,hs,hr⟩:=h.1 2 _ _ (g6 (by kernel_rfl)) h0
 obtain ⟨ts,hts,_,hall⟩:=hr (by kernel_rfl)
 have hc:Tryz.prog.cellTypes Tryz.prog.depth 3=some [3]:=by kernel_rfl
 rw [hc] at hts
 cases hts
 have h1:cs.size=1:=hs
 obtain ⟨u,hu,hok⟩:=hall 0 cs[0] (by simp)
 have:u=3:=by simpa using hu.symm
 subst this
 have hi:Tryz.prog.underlying 3=some (.int .i64):=by kernel_rfl
 unfold Cell.ok at hok
 rw [hi] at hok
 have hcs:cs = #[cs[0]]:=by
  apply Array.ext
  ·simp [h1]
  ·intro i h2 h3
   have:i=0:=by omega
   subst this
   rfl
 cases hv:cs[0] <;> rw [hv] at hok <;> simp at hok
 rename_i k n
 obtain ⟨rfl,hn⟩:=hok
 refine .gint n 2 3 (0,0) hn ?_ (fun h=>h)
 rw [hh,hcs,hv]

theorem gl5 {W:World} {l:List (String×DataW Unit)} (h:laidMet Tryz.prog l W) (hs:W.ShapedOpen Tryz.prog) (hm:("internal/strconv.uint64pow10",Rows.laid_internal_strconv_uint64pow10)∈l):Rv W U0 fX (.tab .u64 iO) (.pointer (some ⟨5,0,none⟩)):=by
 obtain ⟨cs,T,fr,hb,hd⟩:=vA h (g:=5) (t:=314) (e:=296) (len:=20) hm (by kernel_rfl) (by kernel_rfl) (by kernel_rfl) (by kernel_rfl)
 have hu:Tryz.prog.underlying 296=some (.int .u64):=by kernel_rfl
 have h0:((begin Tryz.prog (fun _ _=>0) default).world.heap[5]?).bind Obj.row?=some (Array.replicate 20 (.int .u64 0),314):=by kernel_rfl
 obtain ⟨cs',hh,hsz,_⟩:=hs.1 5 _ _ (g6 (by kernel_rfl)) h0
 rw [hb] at hh
 have hcs:cs=cs':=by simp only [zZ,Obj.cells.injEq] at hh; exact hh.1
 have hlen:cs.size=20:=by rw [hcs,hsz]; simp
 have key:cs=(iO.map fun z=>Value.int .u64 z).toArray:=by
  apply Array.ext
  ·rw [hlen]; rfl
  ·intro i h1 h2
   have hd':∀ (j:Nat) z,iO[j]?=some z→cs[j]?=some (.int .u64 z):=by
    intro j z hz
    obtain ⟨_,_,g⟩:=hd j (.lit (.int .u64 z)) (by
     have:(match (Rows.laid_internal_strconv_uint64pow10:DataW Unit) with | .agg l=>l | _=>[])=iO.map fun z=>DataW.lit (.int .u64 z):=by kernel_rfl
     have e2:(match (Rows.laid_internal_strconv_uint64pow10:DataW Unit) with | .agg l=>l | _=>[])[j]?=some (.lit (.int .u64 z)):=by
      rw [this,cP,hz]
      rfl
     exact e2)
    exact Ev (JE hu g)
   have hi:i < iO.length:=by simpa using h2
   have:=hd' i iO[i] (zJ hi)
   rw [gz h1,zZ] at this
   rw [this,List.getElem_toArray,List.getElem_map]
 exact .tab .u64 iO 5 T fr (by rw [hb,key]) (fun h=>h)


theorem H4:laidOutB Tryz.prog=true:=by kernel_rfl
def pm (P:Program) (t:TypeId):Bool:=match P.underlying t with
 | some (.struct _)=>true
 | _=>false
theorem xK {P:Program} {t:TypeId} (h:pm P t=true):∃ fs,P.underlying t=some (.struct fs):=by
 unfold pm at h
 split at h
 ·exact ⟨_,‹_›⟩
 ·cases h
theorem un4:Tryz.prog.underlying 4=some .bool:=by kernel_rfl

theorem Zo {H:Type} {enc:TypeId×Value→H} {W W':World} (hsame:∀ b,b < W.heap.size→W'.heap[b]?=W.heap[b]?) {t:TypeId} {v:Value} {d:DataW H} {ps:List MemPlace} (hr:Tryz.prog.readableRec t=true) (hrow:t < Tryz.prog.types.size)
  (h:DataW.Trod enc Tryz.prog W 0 (fun _=>true) true t v d ps) (hlt:∀ p∈ps,p.block < W.heap.size) {sp:Nat→Bool} (hs:∀ p∈ps,sp p.block=true):DataW.Trod enc Tryz.prog W' 0 sp true t v d ps:=
 WideElems.Trod_stays H4 hr hrow h (fun p hp=>by
  have h1:=hsame p.block (hlt p hp)
  cases p with
  | cell b off=>exact World.cell?_of_block h1
  | map b=>exact h1) hs

theorem Ls {W:World} {l:List (String×DataW Unit)} (hL:laidMet Tryz.prog l W) (hs:W.ShapedOpen Tryz.prog) (h0:("caddis/stmt.types",Rows.laid_caddis_stmt_types)∈l) (h5:("internal/strconv.uint64pow10",Rows.laid_internal_strconv_uint64pow10)∈l):uy Fb W U0:=by
 intro g
 match g with
 | 0=>exact gl0 hL h0
 | 1=>exact .any _
 | 2=>exact gl2 hs
 | 3=>exact .any _
 | 4=>exact .any _
 | 5=>exact gl5 hL hs h5
 | g+6=>exact .any _

theorem Fq {P:Program} {W:World} {r:Go.Reach} {b:Nat} {t:TypeId} {v:Value} (ht:P.underlying t=some .string) (h:Value.okWide P W r b t v):∃ n,v=.string n:=by
 unfold Value.okWide at h
 rw [ht] at h
 simp only at h
 unfold Cell.okWide at h
 rw [ht] at h
 unfold Cell.ok at h
 rw [ht] at h
 cases v <;> simp at h
 exact ⟨_,rfl⟩

structure qC (t:TypeId) (s:Sh):Prop where
 got:∀ {H:Type} {enc:TypeId×Value→H} {W:World} {r:Go.Reach} {b:Nat} {v:Value} {d:DataW H} {ps:List MemPlace},Value.okWide Tryz.prog W r b t v→DataW.Trod enc Tryz.prog W 0 (fun _=>true) true t v d ps→∃ x:Sem s,Rv W U0 fX (zy s x) v
 rd:Tryz.prog.readableRec t=true
 row:t < Tryz.prog.types.size

set_option maxRecDepth 100000 in
theorem qC.struct {t:TypeId} {s:Sh} {n:Nat} (hty:C1 Tryz.prog n t s=true) (hs:s.isAgg=true) (ht:pm Tryz.prog t=true) (rd:Tryz.prog.readableRec t=true) (row:t < Tryz.prog.types.size):qC t s where
 got:=fun hok h=>by
  obtain ⟨fs,hu⟩:=xK ht
  exact Ch hty hs hu hok h
 rd:=rd
 row:=row
set_option maxRecDepth 100000 in
theorem qC.slice {t e:TypeId} {s:Sh} {n:Nat} (hty:C1 Tryz.prog n t (.sl s)=true) (ht:Tryz.prog.underlying t=some (.slice e)) (rd:Tryz.prog.readableRec t=true) (row:t < Tryz.prog.types.size):qC t (.sl s) where
 got:=fun hok h=>Fh hty ht hok h
 rd:=rd
 row:=row
set_option maxRecDepth 100000 in
theorem qC.int {t:TypeId} {k:IntKind} {n:Nat} (hty:C1 Tryz.prog n t (.int k)=true) (ht:Tryz.prog.underlying t=some (.int k)) (rd:Tryz.prog.readableRec t=true) (row:t < Tryz.prog.types.size):qC t (.int k) where
 got:=fun hok h=>Lv hty ht hok h
 rd:=rd
 row:=row
set_option maxRecDepth 100000 in
theorem qC.str {t:TypeId} {n:Nat} (hty:C1 Tryz.prog n t .str=true) (ht:Tryz.prog.underlying t=some .string) (rd:Tryz.prog.readableRec t=true) (row:t < Tryz.prog.types.size):qC t .str where
 got:=fun hok h=>by
  obtain ⟨m,rfl⟩:=Fq ht hok
  exact qJ (s:=.str) hty h ⟨(fun ⟨_,hh⟩=>(by cases hh)),(fun hh=>(by cases hh))⟩ (fun _=>rfl)
 rd:=rd
 row:=row

inductive BK:List TypeId→List Sh→Prop
 | nil:BK [] []
 | cons {t:TypeId} {s:Sh} {ts:List TypeId} {ss:List Sh} (h:qC t s) (r:BK ts ss):BK (t::ts) (s::ss)

set_option maxRecDepth 100000 in
theorem BK.got {ts:List TypeId} {ss:List Sh} (h:BK ts ss):∀ {H:Type} {enc:TypeId×Value→H} {W:World} {base:Nat} {vs:List Value} {ds:List (DataW H)} {ps:List MemPlace},
  (∀ (j:Nat) t v,ts[j]?=some t→vs[j]?=some v→Value.okWide Tryz.prog W .any base t v)→DataW.TrodAll enc Tryz.prog W 0 (fun _=>true) true ts vs ds ps→
  ds.length=ts.length∧(∃ x:zw (ss.map some),bY W U0 fX (fm (ss.map some) x) vs)∧
  ∀ W',(∀ b,b < W.heap.size→W'.heap[b]?=W.heap[b]?)→(∀ p∈ps,p.block < W.heap.size)→∀ sp:Nat→Bool,(∀ p∈ps,sp p.block=true)→DataW.TrodAll enc Tryz.prog W' 0 sp true ts vs ds ps:=by
 induction h with
 | nil=>
  intro H enc W base vs ds ps _ hT
  obtain ⟨rfl,rfl,rfl⟩:=trodAll_nil hT
  exact ⟨rfl,⟨(),rfl,fun j c v hc=>by
   have h0:([]:List AV)[j]?=some c:=hc
   simp at h0⟩,fun _ _ _ _ _=>trodAll_mk0⟩
 | @cons t s ts ss h r IH=>
  intro H enc W base vs ds ps hok hT
  obtain ⟨v,vs,d,ds,p,q,rfl,rfl,rfl,hd,hrest⟩:=trodAll_cons hT
  obtain ⟨x,hx⟩:=h.got (hok 0 t v rfl rfl) hd
  obtain ⟨hl,⟨y,hy⟩,hk⟩:=IH (fun j t v ht hv=>hok (j+1) t v ht hv) hrest
  refine ⟨by simp [hl],⟨(x,y),by show (zy s x::fm (ss.map some) y).length=_; simp [hy.len],fun j c v' hc hv=>?_⟩,fun W' hsame hlt sp hsp=>?_⟩
  ·have hc:(zy s x::fm (ss.map some) y)[j]?=some c:=hc
   cases j with
   | zero=>
    simp only [List.getElem?_cons_zero,zZ] at hc hv
    subst hc
    subst hv
    exact hx
   | succ j=>exact hy.rv j c v' hc hv
  ·exact trodAll_cons_mk (Zo hsame h.rd h.row hd (fun p hp=>hlt p (by simp [hp])) (fun p hp=>hsp p (by simp [hp]))) (hk W' hsame (fun p hp=>hlt p (by simp [hp])) sp (fun p hp=>hsp p (by simp [hp])))

theorem Di:∀ (ss:List Sh) (x:zw (ss.map some)),AV.idsL (fm (ss.map some) x)=[]
 | [],_=>rfl
 | s::ss,x=>by
  show (zy s x.1).ids++AV.idsL (fm (ss.map some) x.2)=[]
  rw [Di ss x.2,pR]
  unfold zy
  have hL:∀ l:List AV,(∀ c∈l,c.ids=[])→AV.idsL l=[]:=by
   intro l
   induction l with
   | nil=>intro _; rfl
   | cons c l ih=>intro h; simp only [AV.idsL,h c (by simp),ih fun c hc=>h c (by simp [hc]),pR]
  have hE:∀ c∈zl s x.1,c.ids=[]:=fun c hc=>by
   obtain ⟨j,hj,rfl⟩:=List.getElem_of_mem hc
   exact iy s x.1 j _ (zJ hj)
  cases s.isAgg with
  | true=>exact hL _ hE
  | false=>
   cases hh:zl s x.1 with
   | nil=>rfl
   | cons c l=>exact hE c (by rw [hh]; simp)

set_option maxRecDepth 100000 in
theorem EO {k:FuncId} {f:Func} {s:ChangeSpec} {F:zB} {ts:List TypeId} {ss:List Sh} (hF:kx Tryz.prog Fb k F) (hpar:f.params=ts.toArray) (hp:BK ts ss) (hrt:f.resultTypes = #[4]) (hvars:s.vars=[])
  (hfn:∀ (H:Type) (ds:List (DataW H)),ds.length=ts.length→s.fn H ds={ results:=[.lit (.bool true)],args:=ds })
  {H:Type} {enc:TypeId×Value→H} {W:World} {base:Nat} {args:Array Value} {ds gs:List (DataW H)} {before:List MemPlace}
  (hv:∀ x:zw (ss.map some),bY W U0 fX (fm (ss.map some) x) args.toList→(F (fm (ss.map some) x) (fun _=>.dead) 0).val=some { val:=.bool true })
  (hval:∀ (j:Nat) t v,f.params[j]?=some t→args[j]?=some v→Value.okWide Tryz.prog W .any base t v)
  (hW:DataW.Whole enc Tryz.prog f.params.toList s.vars false W args.toList ds gs before) (hgl:uy Fb W U0):
  Calls Tryz.prog k args W fun e W'=>∃ v,e=.returned v∧s.post enc Tryz.prog f false true false false W args v W':=by
 have hW':=hW
 obtain ⟨p,q,hA0,hV,rfl,hfz,hnd⟩:=hW
 have hA:DataW.TrodAll enc Tryz.prog W 0 (fun _=>true) true f.params.toList args.toList ds p:=hA0
 rw [hpar] at hA
 rw [hvars] at hV
 obtain ⟨rfl,rfl⟩:=trodVars_none hV
 have hlt:=hW'.lt
 obtain ⟨hl,⟨x,hx⟩,hk⟩:=hp.got (base:=base) (fun j t v ht hv=>hval j t v (by rw [hpar]; simpa using ht) (by simpa using hv)) hA
 have hc:=BO hF (args:=args) hgl hx (hv x hx) (Di ss x)
 refine hc.mono fun e' W' ⟨he,hext,hsame⟩=>?_
 subst he
 have hf2:s.fn H (ds++[])={ results:=[.lit (.bool true)],args:=ds }:=by rw [pR]; exact hfn H ds hl
 refine ⟨_,rfl,A4 (pa:=p) (pv:=[]) hW' (fun _ _ _=>?_) (fun sp hsp=>?_) (fun _ _=>?_) (by simp) (xM hext.os hext.out hsame _) hext.fr (ok_one hrt rfl (okWide_bool_mk un4 _))⟩
 ·rw [hf2,hrt]
  exact trodAll_cons_mk (shut_bool un4 _) trodAll_mk0
 ·rw [hf2,hpar]
  exact hk W' hsame (fun p hp=>hlt p (by simpa using hp)) sp (fun p hp=>hsp p (by simpa using hp))
 ·rw [hf2,hvars]
  rfl
end Cad
