/- What the package variables hold when a law begins. Laws of any parameters: the contract. The law BaseStays answers true. -/
import Derived.Test.YtiefilkilbdpgaaGreatDoorS19
import Derived.Test.YtiefilkilbdpgaaGreatDoorS06
import Derived.Test.YtiefilkilbdpgaaGreatDoorRows
import Derived.OpenShut
import Derived.ProofKit
import Derived.Test.YtiefilkilbdpgaaGreatDoorS11
import Derived.Test.YtiefilkilbdpgaaGreatDoorS12
namespace Cad
open Go Go.Proofs Go.RowKit Go.ChangeShapes Go.WideShapes Go.ChangeAt Go.Proofs.YtiefilkilbdpgaaGreatDoor

theorem Ds {P:Program} {w:World}:∀ {l:List (String×DataW Unit)} {ps:List MemPlace},DataW.LaidVars P w l ps→∀ n d,(n,d)∈l→
  ∃ g t cs fuel p,P.globalNamed n=some g∧(P.globals[g]?).map (·.type)=some t∧w.var? P n=some cs∧DataW.trod (fun _=>()) P w 0 (fun _=>true) false fuel t cs.toList=some (d,p)
 | [],_,_,_,_,h=>by simp at h
 | (n0,d0)::r,ps,h,n,d,hm=>by
  obtain ⟨g,t,cs,fuel,p,q,h1,h2,h3,h4,h5,_⟩:=h
  rcases cY.1 hm with e | hm
  ·cases e
   exact ⟨g,t,cs,fuel,p,h1,h2,h3,h4⟩
  ·exact Ds h5 n d hm

theorem Bl {P:Program} {l:List (String×DataW Unit)} {w:World} (hf:(l.filter fun x=>x.2.handleName?.isSome).isEmpty=true) (h:laidMetH P l w):laidMet P l w:=by
 unfold laidMetH at h
 split at h
 ·exact h
 ·rename_i a b hab
  rw [hab] at hf
  simp at hf

theorem m9 {H:Type} {enc:TypeId×Value→H} {P:Program} {w:World} {base:Nat} {sp:Nat→Bool} {held:Bool} {fuel:Nat} {t:TypeId} (ht:P.underlying t=some .string) {cs:List Value} {b:List UInt8} {p:List MemPlace}
  (h:DataW.trod enc P w base sp held fuel t cs=some (.lit (.string b),p)):cs=[.string ⟨b.toArray⟩]:=by
 cases fuel with
 | zero=>simp [DataW.trod] at h
 | succ fuel=>
  unfold DataW.trod at h
  rw [ht] at h
  split at h
  all_goals first
   | (rename_i hu; cases hu; done)
   | (rename_i hu _; cases hu; done)
   | (simp at h; done)
   | skip
  rename_i s hu
  split at h
  ·simp only [ao,bC,DataW.lit.injEq,Lit.string.injEq] at h
   rw [← h.1]
  ·cases h

theorem N2 {H:Type} {enc:TypeId×Value→H} {P:Program} {w:World} {base:Nat} {sp:Nat→Bool} {held:Bool} {fuel:Nat} {t:TypeId} (ht:P.underlying t=some (.int .u64)) {cs:List Value} {z:Int} {p:List MemPlace}
  (h:DataW.trod enc P w base sp held fuel t cs=some (.lit (.int .u64 z),p)):cs=[.int .u64 z]:=by
 cases fuel with
 | zero=>simp [DataW.trod] at h
 | succ fuel=>
  unfold DataW.trod at h
  rw [ht] at h
  split at h
  all_goals first
   | (rename_i hu; cases hu; done)
   | (rename_i hu _; cases hu; done)
   | (simp at h; done)
   | skip
  all_goals (try split at h)
  all_goals first
   | (cases h; done)
   | (simp at h; done)
   | skip
  all_goals simp_all

theorem yg {W:World} {l:List (String×DataW Unit)} (h:laidMet Tryz.prog l W) {name:String} {g:Nat} {t e:TypeId} {len:Nat} {ds:List (DataW Unit)} (hm:(name,DataW.agg ds)∈l)
  (hg:Tryz.prog.globalNamed name=some g) (ht:(Tryz.prog.globals[g]?).map (·.type)=some t) (hu:Tryz.prog.underlying t=some (.array len e)) (hc:Tryz.prog.cellsOf e=1):
  ∃ cs T fr,W.heap[g]?=some (.cells cs T fr)∧∀ (j:Nat) d,ds[j]?=some d→∃ fuel p,DataW.trod (fun _=>()) Tryz.prog W 0 (fun _=>true) false fuel e ((cs.toList.drop j).take 1)=some (d,p):=by
 obtain ⟨ps,hL,_,_⟩:=h
 obtain ⟨g',t',cs,fuel,p,h1,h2,h3,h4⟩:=Ds hL name _ hm
 rw [hg] at h1
 cases h1
 rw [ht] at h2
 cases h2
 have hvar:∃ T fr,W.heap[g]?=some (.cells cs T fr):=by
  unfold World.var? at h3
  rw [hg] at h3
  simp only [Option.bind_some] at h3
  split at h3
  ·rename_i c T fr hh
   cases h3
   exact ⟨T,fr,hh⟩
  ·cases h3
 obtain ⟨T,fr,hblk⟩:=hvar
 refine ⟨cs,T,fr,hblk,?_⟩
 cases fuel with
 | zero=>simp [DataW.trod] at h4
 | succ fuel=>
  unfold DataW.trod at h4
  rw [hu] at h4
  simp only at h4
  split at h4
  ·rw [dI] at h4
   obtain ⟨xs,hm',hx⟩:=h4
   simp only [bC,DataW.agg.injEq] at hx
   obtain ⟨hl,hg'⟩:=vW hm'
   intro j d hj
   rw [← hx.1,de,dI] at hj
   obtain ⟨⟨d',p'⟩,hj,rfl⟩:=hj
   have hjl:j < xs.length:=(bM.1 hj).1
   have hr:(List.range len)[j]?=some j:=by
    rw [x7]
    rw [hl,List.length_range] at hjl
    exact hjl
   have:=hg' j j hr
   rw [hj,hc,Nat.mul_one] at this
   exact ⟨fuel,p',this⟩
  ·cases h4

theorem H3 {cs:Array Value} {j:Nat} {v:Value} (h:(cs.toList.drop j).take 1=[v]):cs[j]?=some v:=by
 have:=congrArg (·[0]?) h
 simp only [uc,jI] at this
 simpa using this

theorem gl0 {W:World} {l:List (String×DataW Unit)} (h:laidMet Tryz.prog l W) (hm:("caddis/stmt.types",Rows.laid_caddis_stmt_types)∈l):Rv W U0 ip (.eptr [.str [73,78,84],.str [84,69,88,84],.str [66,79,79,76]] 0) (.pointer (some ⟨0,0,none⟩)):=by
 obtain ⟨cs,T,fr,hb,hd⟩:=yg h (g:=0) (t:=248) (e:=9) (len:=3) hm (by kernel_rfl) (by kernel_rfl) (by kernel_rfl) (by kernel_rfl)
 have hs9:Tryz.prog.underlying 9=some .string:=by kernel_rfl
 have hcell:∀ j,W.cell? ⟨0,j,none⟩=cs[j]?:=by
  intro j
  unfold World.cell?
  rw [hb]
  rfl
 obtain ⟨_,_,g0⟩:=hd 0 _ rfl
 obtain ⟨_,_,g1⟩:=hd 1 _ rfl
 obtain ⟨_,_,g2⟩:=hd 2 _ rfl
 have w0:=H3 (m9 hs9 g0)
 have w1:=H3 (m9 hs9 g1)
 have w2:=H3 (m9 hs9 g2)
 refine .eptr [.str [73,78,84],.str [84,69,88,84],.str [66,79,79,76]] 0 0 0 (fun j=>match j with
  | 0=>.string ⟨#[73,78,84]⟩
  | 1=>.string ⟨#[84,69,88,84]⟩
  | _=>.string ⟨#[66,79,79,76]⟩) (AF (by rw [hcell]; exact w0)) (fun h=>h) ?_ ?_ ?_
 ·intro j hj
  match j,hj with
  | 0,_=>rw [hcell]; exact w0
  | 1,_=>rw [hcell]; exact w1
  | 2,_=>rw [hcell]; exact w2
 ·intro j hj
  match j,hj with
  | 0,_=>rfl
  | 1,_=>rfl
  | 2,_=>rfl
 ·intro j c hc
  match j,hc with
  | 0,hc=>simp at hc; subst hc; exact .str [73,78,84] (by simp [zC])
  | 1,hc=>simp at hc; subst hc; exact .str [84,69,88,84] (by simp [zC])
  | 2,hc=>simp at hc; subst hc; exact .str [66,79,79,76] (by simp [zC])
  | j+3,hc=>simp at hc

set_option maxRecDepth 100000 in
theorem gl2 {W:World} (h:W.ShapedOpen Tryz.prog):Rv W U0 ip .gint (.pointer (some ⟨2,0,none⟩)):=by
 have h0:((begin Tryz.prog (fun _ _=>0) default).world.heap[2]?).bind Obj.row?=some (#[.int .i64 0],3):=by kernel_rfl
 obtain ⟨cs,hh,hs,hr⟩:=h.1 2 _ _ (fb (by kernel_rfl)) h0
 obtain ⟨ts,hts,_,hall⟩:=hr (by kernel_rfl)
 have hc:Tryz.prog.cellTypes Tryz.prog.depth 3=some [3]:=by kernel_rfl
 rw [hc] at hts
 cases hts
 have h1:cs.size=1:=hs
 obtain ⟨u,hu,hok⟩:=hall 0 cs[0] (by simp)
 have:u=3:=by simpa using hu.symm
 subst this
 have hi:Tryz.prog.underlying 3=some (.int .i64):=by kernel_rfl
 unfold Cell.ok at hok
 rw [hi] at hok
 have hcs:cs = #[cs[0]]:=by
  apply Array.ext
  ·simp [h1]
  ·intro i h2 h3
   have:i=0:=by omega
   subst this
   rfl
 cases hv:cs[0] <;> rw [hv] at hok <;> simp at hok
 rename_i k n
 obtain ⟨rfl,hn⟩:=hok
 refine .gint n 2 3 (0,0) hn ?_ (fun h=>h)
 rw [hh,hcs,hv]

theorem gl5 {W:World} {l:List (String×DataW Unit)} (h:laidMet Tryz.prog l W) (hs:W.ShapedOpen Tryz.prog) (hm:("internal/strconv.uint64pow10",Rows.laid_internal_strconv_uint64pow10)∈l):Rv W U0 ip (.tab .u64 j9) (.pointer (some ⟨5,0,none⟩)):=by
 obtain ⟨cs,T,fr,hb,hd⟩:=yg h (g:=5) (t:=314) (e:=296) (len:=20) hm (by kernel_rfl) (by kernel_rfl) (by kernel_rfl) (by kernel_rfl)
 have hu:Tryz.prog.underlying 296=some (.int .u64):=by kernel_rfl
 have h0:((begin Tryz.prog (fun _ _=>0) default).world.heap[5]?).bind Obj.row?=some (Array.replicate 20 (.int .u64 0),314):=by kernel_rfl
 obtain ⟨cs',hh,hsz,_⟩:=hs.1 5 _ _ (fb (by kernel_rfl)) h0
 rw [hb] at hh
 have hcs:cs=cs':=by simp only [ao,Obj.cells.injEq] at hh; exact hh.1
 have hlen:cs.size=20:=by rw [hcs,hsz]; simp
 have key:cs=(j9.map fun z=>Value.int .u64 z).toArray:=by
  apply Array.ext
  ·rw [hlen]; rfl
  ·intro i h1 h2
   have hd':∀ (j:Nat) z,j9[j]?=some z→cs[j]?=some (.int .u64 z):=by
    intro j z hz
    obtain ⟨_,_,g⟩:=hd j (.lit (.int .u64 z)) (by
     have:(match (Rows.laid_internal_strconv_uint64pow10:DataW Unit) with | .agg l=>l | _=>[])=j9.map fun z=>DataW.lit (.int .u64 z):=by kernel_rfl
     have e2:(match (Rows.laid_internal_strconv_uint64pow10:DataW Unit) with | .agg l=>l | _=>[])[j]?=some (.lit (.int .u64 z)):=by
      rw [this,de,hz]
      rfl
     exact e2)
    exact H3 (N2 hu g)
   have hi:i < j9.length:=by simpa using h2
   have:=hd' i j9[i] (zJ hi)
   rw [gZ h1,ao] at this
   rw [this,List.getElem_toArray,List.getElem_map]
 exact .tab .u64 j9 5 T fr (by rw [hb,key]) (fun h=>h)


theorem Ms:laidOutB Tryz.prog=true:=by kernel_rfl
def rp (P:Program) (t:TypeId):Bool:=match P.underlying t with
 | some (.struct _)=>true
 | _=>false
theorem Bj {P:Program} {t:TypeId} (h:rp P t=true):∃ fs,P.underlying t=some (.struct fs):=by
 unfold rp at h
 split at h
 ·exact ⟨_,‹_›⟩
 ·cases h
theorem un4:Tryz.prog.underlying 4=some .bool:=by kernel_rfl

theorem zfe {H:Type} {enc:TypeId×Value→H} {W W':World} (hsame:∀ b,b < W.heap.size→W'.heap[b]?=W.heap[b]?) {t:TypeId} {v:Value} {d:DataW H} {ps:List MemPlace} (hr:Tryz.prog.readableRec t=true) (hrow:t < Tryz.prog.types.size)
  (h:DataW.Trod enc Tryz.prog W 0 (fun _=>true) true t v d ps) (hlt:∀ p∈ps,p.block < W.heap.size) {sp:Nat→Bool} (hs:∀ p∈ps,sp p.block=true):DataW.Trod enc Tryz.prog W' 0 sp true t v d ps:=
 WideElems.Trod_stays Ms hr hrow h (fun p hp=>by
  have h1:=hsame p.block (hlt p hp)
  cases p with
  | cell b off=>exact World.cell?_of_block h1
  | map b=>exact h1) hs

theorem PT {W:World} {l:List (String×DataW Unit)} (hL:laidMet Tryz.prog l W) (hs:W.ShapedOpen Tryz.prog) (h0:("caddis/stmt.types",Rows.laid_caddis_stmt_types)∈l) (h5:("internal/strconv.uint64pow10",Rows.laid_internal_strconv_uint64pow10)∈l):xp IR W U0:=by
 intro g
 match g with
 | 0=>exact gl0 hL h0
 | 1=>exact .any _
 | 2=>exact gl2 hs
 | 3=>exact .any _
 | 4=>exact .any _
 | 5=>exact gl5 hL hs h5
 | g+6=>exact .any _

theorem Jb {P:Program} {W:World} {r:Go.Reach} {b:Nat} {t:TypeId} {v:Value} (ht:P.underlying t=some .string) (h:Value.okWide P W r b t v):∃ n,v=.string n:=by
 unfold Value.okWide at h
 rw [ht] at h
 simp only at h
 unfold Cell.okWide at h
 rw [ht] at h
 unfold Cell.ok at h
 rw [ht] at h
 cases v <;> simp at h
 exact ⟨_,rfl⟩

structure xu (t:TypeId) (s:Sh):Prop where
 got:∀ {H:Type} {enc:TypeId×Value→H} {W:World} {r:Go.Reach} {b:Nat} {v:Value} {d:DataW H} {ps:List MemPlace},Value.okWide Tryz.prog W r b t v→DataW.Trod enc Tryz.prog W 0 (fun _=>true) true t v d ps→∃ x:Sem s,Rv W U0 ip (zz s x) v
 rd:Tryz.prog.readableRec t=true
 row:t < Tryz.prog.types.size

set_option maxRecDepth 100000 in
theorem xu.struct {t:TypeId} {s:Sh} {n:Nat} (hty:Gi Tryz.prog n t s=true) (hs:s.isAgg=true) (ht:rp Tryz.prog t=true) (rd:Tryz.prog.readableRec t=true) (row:t < Tryz.prog.types.size):xu t s where
 got:=fun hok h=>by
  obtain ⟨fs,hu⟩:=Bj ht
  exact Ff hty hs hu hok h
 rd:=rd
 row:=row
set_option maxRecDepth 100000 in
theorem xu.slice {t e:TypeId} {s:Sh} {n:Nat} (hty:Gi Tryz.prog n t (.sl s)=true) (ht:Tryz.prog.underlying t=some (.slice e)) (rd:Tryz.prog.readableRec t=true) (row:t < Tryz.prog.types.size):xu t (.sl s) where
 got:=fun hok h=>IX hty ht hok h
 rd:=rd
 row:=row
set_option maxRecDepth 100000 in
theorem xu.int {t:TypeId} {k:IntKind} {n:Nat} (hty:Gi Tryz.prog n t (.int k)=true) (ht:Tryz.prog.underlying t=some (.int k)) (rd:Tryz.prog.readableRec t=true) (row:t < Tryz.prog.types.size):xu t (.int k) where
 got:=fun hok h=>PW hty ht hok h
 rd:=rd
 row:=row
set_option maxRecDepth 100000 in
theorem xu.str {t:TypeId} {n:Nat} (hty:Gi Tryz.prog n t .str=true) (ht:Tryz.prog.underlying t=some .string) (rd:Tryz.prog.readableRec t=true) (row:t < Tryz.prog.types.size):xu t .str where
 got:=fun hok h=>by
  obtain ⟨m,rfl⟩:=Jb ht hok
  exact sZ (s:=.str) hty h ⟨(fun ⟨_,hh⟩=>(by cases hh)),(fun hh=>(by cases hh))⟩ (fun _=>rfl)
 rd:=rd
 row:=row

inductive Er:List TypeId→List Sh→Prop
 | nil:Er [] []
 | cons {t:TypeId} {s:Sh} {ts:List TypeId} {ss:List Sh} (h:xu t s) (r:Er ts ss):Er (t::ts) (s::ss)

set_option maxRecDepth 100000 in
theorem Er.got {ts:List TypeId} {ss:List Sh} (h:Er ts ss):∀ {H:Type} {enc:TypeId×Value→H} {W:World} {base:Nat} {vs:List Value} {ds:List (DataW H)} {ps:List MemPlace},
  (∀ (j:Nat) t v,ts[j]?=some t→vs[j]?=some v→Value.okWide Tryz.prog W .any base t v)→DataW.TrodAll enc Tryz.prog W 0 (fun _=>true) true ts vs ds ps→
  ds.length=ts.length∧(∃ x:zw (ss.map some),cK W U0 ip (gz (ss.map some) x) vs)∧
  ∀ W',(∀ b,b < W.heap.size→W'.heap[b]?=W.heap[b]?)→(∀ p∈ps,p.block < W.heap.size)→∀ sp:Nat→Bool,(∀ p∈ps,sp p.block=true)→DataW.TrodAll enc Tryz.prog W' 0 sp true ts vs ds ps:=by
 induction h with
 | nil=>
  intro H enc W base vs ds ps _ hT
  obtain ⟨rfl,rfl,rfl⟩:=trodAll_nil hT
  exact ⟨rfl,⟨(),rfl,fun j c v hc=>by
   have h0:([]:List AV)[j]?=some c:=hc
   simp at h0⟩,fun _ _ _ _ _=>trodAll_mk0⟩
 | @cons t s ts ss h r IH=>
  intro H enc W base vs ds ps hok hT
  obtain ⟨v,vs,d,ds,p,q,rfl,rfl,rfl,hd,hrest⟩:=trodAll_cons hT
  obtain ⟨x,hx⟩:=h.got (hok 0 t v rfl rfl) hd
  obtain ⟨hl,⟨y,hy⟩,hk⟩:=IH (fun j t v ht hv=>hok (j+1) t v ht hv) hrest
  refine ⟨by simp [hl],⟨(x,y),by show (zz s x::gz (ss.map some) y).length=_; simp [hy.len],fun j c v' hc hv=>?_⟩,fun W' hsame hlt sp hsp=>?_⟩
  ·have hc:(zz s x::gz (ss.map some) y)[j]?=some c:=hc
   cases j with
   | zero=>
    simp only [List.getElem?_cons_zero,ao] at hc hv
    subst hc
    subst hv
    exact hx
   | succ j=>exact hy.rv j c v' hc hv
  ·exact trodAll_cons_mk (zfe hsame h.rd h.row hd (fun p hp=>hlt p (by simp [hp])) (fun p hp=>hsp p (by simp [hp]))) (hk W' hsame (fun p hp=>hlt p (by simp [hp])) sp (fun p hp=>hsp p (by simp [hp])))

theorem GA:∀ (ss:List Sh) (x:zw (ss.map some)),AV.idsL (gz (ss.map some) x)=[]
 | [],_=>rfl
 | s::ss,x=>by
  show (zz s x.1).ids++AV.idsL (gz (ss.map some) x.2)=[]
  rw [GA ss x.2,jL]
  unfold zz
  have hL:∀ l:List AV,(∀ c∈l,c.ids=[])→AV.idsL l=[]:=by
   intro l
   induction l with
   | nil=>intro _; rfl
   | cons c l ih=>intro h; simp only [AV.idsL,h c (by simp),ih fun c hc=>h c (by simp [hc]),jL]
  have hE:∀ c∈zn s x.1,c.ids=[]:=fun c hc=>by
   obtain ⟨j,hj,rfl⟩:=List.getElem_of_mem hc
   exact jS s x.1 j _ (zJ hj)
  cases s.isAgg with
  | true=>exact hL _ hE
  | false=>
   cases hh:zn s x.1 with
   | nil=>rfl
   | cons c l=>exact hE c (by rw [hh]; simp)

set_option maxRecDepth 100000 in
theorem Ir {k:FuncId} {f:Func} {s:ChangeSpec} {F:zF} {ts:List TypeId} {ss:List Sh} (hF:mf Tryz.prog IR k F) (hpar:f.params=ts.toArray) (hp:Er ts ss) (hrt:f.resultTypes = #[4]) (hvars:s.vars=[])
  (hfn:∀ (H:Type) (ds:List (DataW H)),ds.length=ts.length→s.fn H ds={ results:=[.lit (.bool true)],args:=ds })
  {H:Type} {enc:TypeId×Value→H} {W:World} {base:Nat} {args:Array Value} {ds gs:List (DataW H)} {before:List MemPlace}
  (hv:∀ x:zw (ss.map some),cK W U0 ip (gz (ss.map some) x) args.toList→(F (gz (ss.map some) x) (fun _=>.dead) 0).val=some { val:=.bool true })
  (hval:∀ (j:Nat) t v,f.params[j]?=some t→args[j]?=some v→Value.okWide Tryz.prog W .any base t v)
  (hW:DataW.Whole enc Tryz.prog f.params.toList s.vars false W args.toList ds gs before) (hgl:xp IR W U0):
  Calls Tryz.prog k args W fun e W'=>∃ v,e=.returned v∧s.post enc Tryz.prog f false true false false W args v W':=by
 have hW':=hW
 obtain ⟨p,q,hA0,hV,rfl,hfz,hnd⟩:=hW
 have hA:DataW.TrodAll enc Tryz.prog W 0 (fun _=>true) true f.params.toList args.toList ds p:=hA0
 rw [hpar] at hA
 rw [hvars] at hV
 obtain ⟨rfl,rfl⟩:=trodVars_none hV
 have hlt:=hW'.lt
 obtain ⟨hl,⟨x,hx⟩,hk⟩:=hp.got (base:=base) (fun j t v ht hv=>hval j t v (by rw [hpar]; simpa using ht) (by simpa using hv)) hA
 have hc:=Ez hF (args:=args) hgl hx (hv x hx) (GA ss x)
 refine hc.mono fun e' W' ⟨he,hext,hsame⟩=>?_
 subst he
 have hf2:s.fn H (ds++[])={ results:=[.lit (.bool true)],args:=ds }:=by rw [jL]; exact hfn H ds hl
 refine ⟨_,rfl,DD (pa:=p) (pv:=[]) hW' (fun _ _ _=>?_) (fun sp hsp=>?_) (fun _ _=>?_) (by simp) (Bk hext.os hext.out hsame _) hext.fr (ok_one hrt rfl (okWide_bool_mk un4 _))⟩
 ·rw [hf2,hrt]
  exact trodAll_cons_mk (shut_bool un4 _) trodAll_mk0
 ·rw [hf2,hpar]
  exact hk W' hsame (fun p hp=>hlt p (by simpa using hp)) sp (fun p hp=>hsp p (by simpa using hp))
 ·rw [hf2,hvars]
  rfl
open Go Go.Proofs
set_option maxHeartbeats 4000000

theorem aM.nil:aM [] where
 few:=by simp
 names:=fun i hi=>by simp at hi
 rels:=fun x hx=>by cases hx
 bound:=fun x hx=>by cases hx

theorem Jy {l:List (Sem zm)} {db:List (Sem zh)} {i:Nat} (hB:aM db) (hs:∀ y∈db,cC y) (hi:i < l.length) (h20:i < 20):
  ∃ d:List (Sem zh),aM d∧(∀ y∈d,cC y)∧(QC (.h3b l db (i:Int))).val=some (.inl (.h3b l d ((i+1:Nat):Int))):=by
 obtain ⟨x,hx⟩:∃ x,l.getD i (zj zm)=x:=⟨_,rfl⟩
 obtain ⟨s,s1,s2,s3⟩:=Ft x
 have hf:fg x=s:=by unfold fg; rw [s1]; rfl
 have hfc:vU x=true:=by unfold vU; rw [s1]; rfl
 obtain ⟨d,a,g,hBd,hsd,herr,hsel⟩:=zbR hs hB s2.sh s2.cp
 obtain ⟨g1,g2⟩:=zbT g
 have hsrd:∀ y∈d,cI y:=fun y hy=>(hsd y hy).sh
 have b1:=dh hsrd
 have b2:fx d=(0:Int):=(fH hsrd).2 hBd
 have hw:=zD i (by unfold zC; omega)
 have hc:(bif decide ((i:Int) < (l.length:Int)) then decide ((i:Int) < 20) else false)=true:=by
  rw [ay (by omega:(i:Int) < (l.length:Int)),ay (by omega:(i:Int) < 20)]
  rfl
 have hsx:x.1=sX→d=db:=fun h=>hsel (by
  have:s.1=bu x.1:=congrArg (·.1) s3.fr
  exact this.trans ((congrArg bu h).trans (show bu sX=sX by kernel_rfl)))
 have c1:(bif a.1 != 0 then f5 d db&&bif !f4 d db then true else bif a.2.1 != 0 then true else bif (a.2.2.length:Int) != 0 then true else (zI (i:Int) l.length&&bif x.1==[115,101,108,101,99,116] then f5 d db else true) else (zI (i:Int) l.length&&bif x.1==[115,101,108,101,99,116] then f5 d db else true))=true∧
   (bif a.1 != 0 then bif !f4 d db then true else bif a.2.1 != 0 then true else bif (a.2.2.length:Int) != 0 then true else (bif x.1==[115,101,108,101,99,116] then !f4 d db else false) else (bif x.1==[115,101,108,101,99,116] then !f4 d db else false))=false:=by
  by_cases h0:a.1=0
  ·have h0':(a.1 != 0)=false:=by simpa using h0
   rw [h0',zB hi]
   cases hq:(x.1==[115,101,108,101,99,116]) with
   | false=>exact ⟨rfl,rfl⟩
   | true=>
    obtain ⟨e1,e2⟩:=HW hBd hsd (hsx (dM hq))
    rw [e1,e2]
    exact ⟨rfl,rfl⟩
  ·have h0':(a.1 != 0)=true:=by simpa using h0
   obtain ⟨e0,ha⟩:=herr h0
   obtain ⟨e1,e2⟩:=HW hBd hsd e0
   rw [h0',zB hi,e1,e2,ha]
   cases (x.1==[115,101,108,101,99,116]) <;> exact ⟨rfl,rfl⟩
 obtain ⟨c1,c2⟩:=c1
 refine ⟨d,hBd,hsd,?_⟩
 have hx':List.getD l (Int.toNat (i:Int)) (zj zm)=x:=by rw [aT]; exact hx
 have hx2:∀ y:Sem zm,List.getD l (Int.toNat (i:Int)) (zj zm)=y→(QC (.h3b l db (i:Int))).val=(Tr.br (bif decide ((i:Int) < (l.length:Int)) then decide ((i:Int) < 20) else false)
   (Tr.chk (zI (i:Int) l.length) (Tr.chk (vU y) (Tr.chk (Kg db (fg y)) (Tr.chk (lg (yi db (fg y)).1) (Tr.br (fx (yi db (fg y)).1 != 0) (Tr.re (σ:=Pf) (AV.kb false) [])
    (Tr.chk (bif (yi db (fg y)).2.1 != 0 then f5 (yi db (fg y)).1 db&&bif !f4 (yi db (fg y)).1 db then true else bif (yi db (fg y)).2.2.1 != 0 then true else bif ((yi db (fg y)).2.2.2.length:Int) != 0 then true else (zI (i:Int) l.length&&bif y.1==[115,101,108,101,99,116] then f5 (yi db (fg y)).1 db else true) else (zI (i:Int) l.length&&bif y.1==[115,101,108,101,99,116] then f5 (yi db (fg y)).1 db else true))
    (Tr.br (bif (yi db (fg y)).2.1 != 0 then bif !f4 (yi db (fg y)).1 db then true else bif (yi db (fg y)).2.2.1 != 0 then true else bif ((yi db (fg y)).2.2.2.length:Int) != 0 then true else (bif y.1==[115,101,108,101,99,116] then !f4 (yi db (fg y)).1 db else false) else (bif y.1==[115,101,108,101,99,116] then !f4 (yi db (fg y)).1 db else false)) (Tr.re (AV.kb false) [])
    (Tr.to (Pf.h3b l (yi db (fg y)).1 (IntKind.i64.wrap ((i:Int)+1)))))))))))
   (Tr.chk true (Tr.re (AV.bool Cz) []))).val:=by
  intro y hy
  subst hy
  simp only [QC,zp,Prod.eta]
 rw [hx2 x hx']
 simp only [Tr.val,hc,zB hi,hf,hfc,g1,g2,b1,b2,jK,zH,if_true,if_false]
 rw [zB hi] at c1
 simp only [c1,c2,hw,zH,if_true,if_false]

theorem HZ {l:List (Sem zm)}:∀ (m i:Nat) (db:List (Sem zh)),min 20 l.length - i=m→i≤min 20 l.length→aM db→(∀ y∈db,cC y)→bq QC (m+1) (.h3b l db (i:Int)) (.bool true,[])
 | 0,i,db,hm,hi,_,_=>by
  have hc:(bif decide ((i:Int) < (l.length:Int)) then decide ((i:Int) < 20) else false)=false:=by
   by_cases h:i < l.length
   ·rw [ay (by omega:(i:Int) < (l.length:Int)),cu (by omega:¬ (i:Int) < 20)]
    rfl
   ·rw [cu (by omega:¬ (i:Int) < (l.length:Int))]
    rfl
  refine bq.of ?_
  simp only [QC,Tr.val,hc,Pt,zH,if_true,if_false]
 | m+1,i,db,hm,hi,hB,hs=>by
  obtain ⟨d,h1,h2,h3⟩:=Jy (l:=l) hB hs (i:=i) (by omega) (by omega)
  exact (aF.of h3).ends (HZ m (i+1) d (by omega) (by omega) h1 h2)

theorem I6 (l:List (Sem zm)):th l=some (true,()):=by
 have h:=HZ (l:=l) (min 20 l.length) 0 [] (by omega) (aV _) aM.nil (fun y hy=>by cases hy)
 have h0:∀ n,bl QC (n+1) (.h3 l ((0:Nat):Int))=bl QC (n+1) (.h3b l [] ((0:Nat):Int)):=fun n=>by
  rw [bl,bl]
  rfl
 have h':bq QC (min 20 l.length+1) (.h3 l ((0:Nat):Int)) (.bool true,[]):=fun n hn=>by
  obtain ⟨n,rfl⟩:∃ k,n=k+1:=⟨n - 1,by omega⟩
  rw [h0]
  exact h _ hn
 exact bb (s:=.h3 l ((0:Nat):Int)) rfl h' (by omega) rfl

theorem Jz (x:zw ([.sl zm].map some)) {W:World} {vs:List Value} (_:cK W U0 ip (gz ([.sl zm].map some) x) vs):(F3w (gz ([.sl zm].map some) x) (fun _=>.dead) 0).val=some { val:=.bool true }:=by
 obtain ⟨l,u⟩:=x
 have h:(F3w [.sl zm l] (fun _=>.dead) 0).val=(Tr.chk (th l).isSome (Tr.ok ({ val:=.bool ((th l).getD (ck [.bool])).1 }:ew))).val:=by kernel_rfl
 show (F3w [.sl zm l] (fun _=>.dead) 0).val=_
 rw [h,I6 l]
 rfl
end Cad
