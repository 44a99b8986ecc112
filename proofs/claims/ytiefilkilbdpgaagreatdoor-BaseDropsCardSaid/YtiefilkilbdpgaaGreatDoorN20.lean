/- From a contract over plain data to a law's statement. What the package variables hold when a law begins. Laws of any parameters: the contract. -/
import Derived.Test.YtiefilkilbdpgaaGreatDoorN19
import Derived.RowKit3
import Derived.WideKeyArgs
import Derived.Test.YtiefilkilbdpgaaGreatDoorN06
import Derived.Test.YtiefilkilbdpgaaGreatDoorRows
import Derived.OpenShut
import Derived.ProofKit
import Derived.Test.YtiefilkilbdpgaaGreatDoorN11
import Derived.Test.YtiefilkilbdpgaaGreatDoorN12
namespace Cad
open Go Go.RowKit Go.ChangeShapes

theorem BU {W W':World} (hos:W'.os=W.os) (hout:W'.output=W.output) (h:∀ b,b < W.heap.size→W'.heap[b]?=W.heap[b]?) (may:MemPlace→Prop):W.keptBut W' may:=by
 refine ⟨hos,hout,fun i hi=>?_⟩
 rw [h i hi]
 cases W.heap[i]? with
 | none=>rfl
 | some o=>
  cases o with
  | cells c t fr=>exact ⟨rfl,rfl,rfl,fun _ _=>rfl⟩
  | map es clock=>exact .inr ⟨rfl,rfl⟩
  | _=>rfl

section
variable {H:Type} {enc:TypeId×Value→H} {P:Program}

theorem Ek {f:Func} {s:ChangeSpec} {fresh handsOn again:Bool} {W W':World} {args:Array Value} {v:Value} {ds gs:List (DataW H)} {before pa pv:List MemPlace}
  (hW:DataW.Whole enc P f.params.toList s.vars false W args.toList ds gs before)
  (hres:∀ (b:Nat) (sp:Nat→Bool) (hd:Bool),DataW.TrodAll enc P W' b sp hd f.resultTypes.toList (v.resultList f.resultTypes.size) (s.fn H (ds++gs)).results [])
  (hargs:∀ sp:Nat→Bool,(∀ p∈before,sp p.block=true)→DataW.TrodAll enc P W' 0 sp true f.params.toList args.toList (s.fn H (ds++gs)).args pa)
  (hvars:∀ sp:Nat→Bool,(∀ p∈before,sp p.block=true)→DataW.TrodVars enc P W' sp s.vars (s.fn H (ds++gs)).vars pv)
  (hps:before=pa++pv) (hk:W.keptBut W' (· ∈ before)) (hfz:∀ a:Addr,a.block < W.heap.size→W'.frozen? a=W.frozen? a)
  (hok:∀ (j:Nat) (t:TypeId) (r:Value),f.resultTypes[j]?=some t→(v.resultList f.resultTypes.size)[j]?=some r→Value.okWide P W' .any 0 t r):
  s.post enc P f false fresh handsOn again W args v W':=by
 have hold:∀ p∈before,(fun b=>decide (b < W.heap.size)) p.block=true:=fun p hp=>by simpa using hW.lt p hp
 have hlt:=hW.lt
 refine ⟨ds,gs,before,[],pa,pv,hW,hres _ _ _,hargs _ hold,hvars _ hold,World.keptBut_mono (fun p hp=>⟨hp,?_⟩) hk,fun _=>?_⟩
 ·rw [hps,bp] at hp
  exact Or.inr hp
 ·obtain ⟨_,_,_,_,_,hz,hn⟩:=hW
  refine ⟨hok,_,_,([]++pa)++pv,⟨[]++pa,pv,trodAll_append (hargs _ (fun _ _=>rfl)) (hres _ _ _),hvars _ (fun _ _=>rfl),rfl,?_,?_⟩,?_⟩
  ·intro b off hp
   have hp':MemPlace.cell b off∈before:=by rw [hps]; simpa using hp
   rw [hfz ⟨b,off,none⟩ (hlt _ hp')]
   exact hz b off hp'
  ·intro ha
   cases ha
  ·intro p hp _
   rw [hps]
   simpa using hp

theorem JY {W:World} {r:Go.Reach} {b:Nat} {t:TypeId} {fs:Array Field} {v:Value} (ht:P.underlying t=some (.struct fs)) (h:Value.okWide P W r b t v):∃ cs,v=.agg cs:=by
 unfold Value.okWide at h
 rw [ht] at h
 obtain ⟨cs,rfl,_⟩:=h
 exact ⟨cs,rfl⟩

theorem NB {W:World} {r:Go.Reach} {b:Nat} {t e:TypeId} {v:Value} (ht:P.underlying t=some (.slice e)) (h:Value.okWide P W r b t v):∃ a n c,v=.slice a n c:=by
 unfold Value.okWide at h
 rw [ht] at h
 simp only at h
 unfold Cell.okWide at h
 rw [ht] at h
 unfold Cell.ok at h
 rw [ht] at h
 cases v <;> simp at h
 exact ⟨_,_,_,rfl⟩

theorem X7 {W:World} {r:Go.Reach} {b:Nat} {t:TypeId} {k:IntKind} {v:Value} (ht:P.underlying t=some (.int k)) (h:Value.okWide P W r b t v):∃ n,v=.int k n:=by
 unfold Value.okWide at h
 rw [ht] at h
 simp only at h
 unfold Cell.okWide at h
 rw [ht] at h
 unfold Cell.ok at h
 rw [ht] at h
 cases v <;> simp at h
 exact ⟨_,by rw [h.1]⟩

theorem FZ {W:World} {r:Go.Reach} {b n:Nat} {t:TypeId} {fs:Array Field} {s:Sh} {v:Value} {d:DataW H} {ps:List MemPlace} (hty:G5 P n t s=true) (hs:s.isAgg=true) (ht:P.underlying t=some (.struct fs)) (hok:Value.okWide P W r b t v)
  (h:DataW.Trod enc P W 0 (fun _=>true) true t v d ps):∃ x:Sem s,Rv W U0 iy (zz s x) v:=by
 refine tF hty h ⟨fun _=>hs,fun _=>JY ht hok⟩ (fun h'=>?_)
 rw [hs] at h'; cases h'
theorem JI {W:World} {r:Go.Reach} {b n:Nat} {t e:TypeId} {s:Sh} {v:Value} {d:DataW H} {ps:List MemPlace} (hty:G5 P n t (.sl s)=true) (ht:P.underlying t=some (.slice e)) (hok:Value.okWide P W r b t v)
  (h:DataW.Trod enc P W 0 (fun _=>true) true t v d ps):∃ x:List (Sem s),Rv W U0 iy (.sl s x) v:=by
 obtain ⟨a,m,c,rfl⟩:=NB ht hok
 exact tF (s:=.sl s) hty h ⟨(fun ⟨_,hh⟩=>(by cases hh)),(fun hh=>(by cases hh))⟩ (fun _=>rfl)
theorem QE {W:World} {r:Go.Reach} {b n:Nat} {t:TypeId} {k:IntKind} {v:Value} {d:DataW H} {ps:List MemPlace} (hty:G5 P n t (.int k)=true) (ht:P.underlying t=some (.int k)) (hok:Value.okWide P W r b t v)
  (h:DataW.Trod enc P W 0 (fun _=>true) true t v d ps):∃ x:Int,Rv W U0 iy (.int k x) v:=by
 obtain ⟨m,rfl⟩:=X7 ht hok
 exact tF (s:=.int k) hty h ⟨(fun ⟨_,hh⟩=>(by cases hh)),(fun hh=>(by cases hh))⟩ (fun _=>rfl)

theorem Ff {gl:Nat→AV} {k:FuncId} {F:zF} (hF:mv P gl k F) {W:World} {gD:List AV} {args:Array Value} (hgl:xS gl W U0) (hr:cK W U0 iy gD args.toList) (hv:(F gD (fun _=>.dead) 0).val=some { val:=.bool true }) (hid:AV.idsL gD=[]):
  Calls P k args W fun e W'=>e=.returned (.bool true)∧gz W W'∧∀ b,b < W.heap.size→W'.heap[b]?=W.heap[b]?:=by
 have:=(hF.calls W U0 iy (fun _=>.dead) 0 gD args.toList _ [] hv hr (fun _ h=>h.elim) hgl ⟨by simp,by simp⟩ (by rw [hid]; simp) (by simp) (by simp)).1
 rw [show args.toList.toArray=args by simp] at this
 refine this.mono ?_
 rintro e w' ⟨v,U',ρ',rfl,hef⟩
 have hv':=hef.val
 cases hv'
 exact ⟨rfl,hef.ext,fun b hb=>hef.same b hb (by simp)⟩
end
open Go Go.Proofs Go.RowKit Go.ChangeShapes Go.WideShapes Go.ChangeAt Go.Proofs.YtiefilkilbdpgaaGreatDoor

theorem D8 {P:Program} {w:World}:∀ {l:List (String×DataW Unit)} {ps:List MemPlace},DataW.LaidVars P w l ps→∀ n d,(n,d)∈l→
  ∃ g t cs fuel p,P.globalNamed n=some g∧(P.globals[g]?).map (·.type)=some t∧w.var? P n=some cs∧DataW.trod (fun _=>()) P w 0 (fun _=>true) false fuel t cs.toList=some (d,p)
 | [],_,_,_,_,h=>by simp at h
 | (n0,d0)::r,ps,h,n,d,hm=>by
  obtain ⟨g,t,cs,fuel,p,q,h1,h2,h3,h4,h5,_⟩:=h
  rcases c9.1 hm with e | hm
  ·cases e
   exact ⟨g,t,cs,fuel,p,h1,h2,h3,h4⟩
  ·exact D8 h5 n d hm

theorem BW {P:Program} {l:List (String×DataW Unit)} {w:World} (hf:(l.filter fun x=>x.2.handleName?.isSome).isEmpty=true) (h:laidMetH P l w):laidMet P l w:=by
 unfold laidMetH at h
 split at h
 ·exact h
 ·rename_i a b hab
  rw [hab] at hf
  simp at hf

theorem ns {H:Type} {enc:TypeId×Value→H} {P:Program} {w:World} {base:Nat} {sp:Nat→Bool} {held:Bool} {fuel:Nat} {t:TypeId} (ht:P.underlying t=some .string) {cs:List Value} {b:List UInt8} {p:List MemPlace}
  (h:DataW.trod enc P w base sp held fuel t cs=some (.lit (.string b),p)):cs=[.string ⟨b.toArray⟩]:=by
 cases fuel with
 | zero=>simp [DataW.trod] at h
 | succ fuel=>
  unfold DataW.trod at h
  rw [ht] at h
  split at h
  all_goals first
   | (rename_i hu; cases hu; done)
   | (rename_i hu _; cases hu; done)
   | (simp at h; done)
   | skip
  rename_i s hu
  split at h
  ·simp only [ap,bv,DataW.lit.injEq,Lit.string.injEq] at h
   rw [← h.1]
  ·cases h

theorem OQ {H:Type} {enc:TypeId×Value→H} {P:Program} {w:World} {base:Nat} {sp:Nat→Bool} {held:Bool} {fuel:Nat} {t:TypeId} (ht:P.underlying t=some (.int .u64)) {cs:List Value} {z:Int} {p:List MemPlace}
  (h:DataW.trod enc P w base sp held fuel t cs=some (.lit (.int .u64 z),p)):cs=[.int .u64 z]:=by
 cases fuel with
 | zero=>simp [DataW.trod] at h
 | succ fuel=>
  unfold DataW.trod at h
  rw [ht] at h
  split at h
  all_goals first
   | (rename_i hu; cases hu; done)
   | (rename_i hu _; cases hu; done)
   | (simp at h; done)
   | skip
  all_goals (try split at h)
  all_goals first
   | (cases h; done)
   | (simp at h; done)
   | skip
  all_goals simp_all

theorem yK {W:World} {l:List (String×DataW Unit)} (h:laidMet Tryz.prog l W) {name:String} {g:Nat} {t e:TypeId} {len:Nat} {ds:List (DataW Unit)} (hm:(name,DataW.agg ds)∈l)
  (hg:Tryz.prog.globalNamed name=some g) (ht:(Tryz.prog.globals[g]?).map (·.type)=some t) (hu:Tryz.prog.underlying t=some (.array len e)) (hc:Tryz.prog.cellsOf e=1):
  ∃ cs T fr,W.heap[g]?=some (.cells cs T fr)∧∀ (j:Nat) d,ds[j]?=some d→∃ fuel p,DataW.trod (fun _=>()) Tryz.prog W 0 (fun _=>true) false fuel e ((cs.toList.drop j).take 1)=some (d,p):=by
 obtain ⟨ps,hL,_,_⟩:=h
 obtain ⟨g',t',cs,fuel,p,h1,h2,h3,h4⟩:=D8 hL name _ hm
 rw [hg] at h1
 cases h1
 rw [ht] at h2
 cases h2
 have hvar:∃ T fr,W.heap[g]?=some (.cells cs T fr):=by
  unfold World.var? at h3
  rw [hg] at h3
  simp only [Option.bind_some] at h3
  split at h3
  ·rename_i c T fr hh
   cases h3
   exact ⟨T,fr,hh⟩
  ·cases h3
 obtain ⟨T,fr,hblk⟩:=hvar
 refine ⟨cs,T,fr,hblk,?_⟩
 cases fuel with
 | zero=>simp [DataW.trod] at h4
 | succ fuel=>
  unfold DataW.trod at h4
  rw [hu] at h4
  simp only at h4
  split at h4
  ·rw [dt] at h4
   obtain ⟨xs,hm',hx⟩:=h4
   simp only [bv,DataW.agg.injEq] at hx
   obtain ⟨hl,hg'⟩:=ww hm'
   intro j d hj
   rw [← hx.1,dh,dt] at hj
   obtain ⟨⟨d',p'⟩,hj,rfl⟩:=hj
   have hjl:j < xs.length:=(bR.1 hj).1
   have hr:(List.range len)[j]?=some j:=by
    rw [yF]
    rw [hl,List.length_range] at hjl
    exact hjl
   have:=hg' j j hr
   rw [hj,hc,Nat.mul_one] at this
   exact ⟨fuel,p',this⟩
  ·cases h4

theorem IR {cs:Array Value} {j:Nat} {v:Value} (h:(cs.toList.drop j).take 1=[v]):cs[j]?=some v:=by
 have:=congrArg (·[0]?) h
 simp only [uC,jO] at this
 simpa using this

theorem gl0 {W:World} {l:List (String×DataW Unit)} (h:laidMet Tryz.prog l W) (hm:("caddis/stmt.types",Rows.laid_caddis_stmt_types)∈l):Rv W U0 iy (.eptr [.str [73,78,84],.str [84,69,88,84],.str [66,79,79,76]] 0) (.pointer (some ⟨0,0,none⟩)):=by
 obtain ⟨cs,T,fr,hb,hd⟩:=yK h (g:=0) (t:=248) (e:=9) (len:=3) hm (by kernel_rfl) (by kernel_rfl) (by kernel_rfl) (by kernel_rfl)
 have hs9:Tryz.prog.underlying 9=some .string:=by kernel_rfl
 have hcell:∀ j,W.cell? ⟨0,j,none⟩=cs[j]?:=by
  intro j
  unfold World.cell?
  rw [hb]
  rfl
 obtain ⟨_,_,g0⟩:=hd 0 _ rfl
 obtain ⟨_,_,g1⟩:=hd 1 _ rfl
 obtain ⟨_,_,g2⟩:=hd 2 _ rfl
 have w0:=IR (ns hs9 g0)
 have w1:=IR (ns hs9 g1)
 have w2:=IR (ns hs9 g2)
 refine .eptr [.str [73,78,84],.str [84,69,88,84],.str [66,79,79,76]] 0 0 0 (fun j=>match j with
  | 0=>.string ⟨#[73,78,84]⟩
  | 1=>.string ⟨#[84,69,88,84]⟩
  | _=>.string ⟨#[66,79,79,76]⟩) (Bg (by rw [hcell]; exact w0)) (fun h=>h) ?_ ?_ ?_
 ·intro j hj
  match j,hj with
  | 0,_=>rw [hcell]; exact w0
  | 1,_=>rw [hcell]; exact w1
  | 2,_=>rw [hcell]; exact w2
 ·intro j hj
  match j,hj with
  | 0,_=>rfl
  | 1,_=>rfl
  | 2,_=>rfl
 ·intro j c hc
  match j,hc with
  | 0,hc=>simp at hc; subst hc; exact .str [73,78,84] (by simp [zB])
  | 1,hc=>simp at hc; subst hc; exact .str [84,69,88,84] (by simp [zB])
  | 2,hc=>simp at hc; subst hc; exact .str [66,79,79,76] (by simp [zB])
  | j+3,hc=>simp at hc

set_option maxRecDepth 100000 in
theorem gl2 {W:World} (h:W.ShapedOpen Tryz.prog):Rv W U0 iy .gint (.pointer (some ⟨2,0,none⟩)):=by
 have h0:((begin Tryz.prog (fun _ _=>0) default).world.heap[2]?).bind Obj.row?=some (#[.int .i64 0],3):=by kernel_rfl
 obtain ⟨cs,hh,hs,hr⟩:=h.1 2 _ _ (fj (by kernel_rfl)) h0
 obtain ⟨ts,hts,_,hall⟩:=hr (by kernel_rfl)
 have hc:Tryz.prog.cellTypes Tryz.prog.depth 3=some [3]:=by kernel_rfl
 rw [hc] at hts
 cases hts
 have h1:cs.size=1:=hs
 obtain ⟨u,hu,hok⟩:=hall 0 cs[0] (by simp)
 have:u=3:=by simpa using hu.symm
 subst this
 have hi:Tryz.prog.underlying 3=some (.int .i64):=by kernel_rfl
 unfold Cell.ok at hok
 rw [hi] at hok
 have hcs:cs = #[cs[0]]:=by
  apply Array.ext
  ·simp [h1]
  ·intro i h2 h3
   have:i=0:=by omega
   subst this
   rfl
 cases hv:cs[0] <;> rw [hv] at hok <;> simp at hok
 rename_i k n
 obtain ⟨rfl,hn⟩:=hok
 refine .gint n 2 3 (0,0) hn ?_ (fun h=>h)
 rw [hh,hcs,hv]

theorem gl5 {W:World} {l:List (String×DataW Unit)} (h:laidMet Tryz.prog l W) (hs:W.ShapedOpen Tryz.prog) (hm:("internal/strconv.uint64pow10",Rows.laid_internal_strconv_uint64pow10)∈l):Rv W U0 iy (.tab .u64 kh) (.pointer (some ⟨5,0,none⟩)):=by
 obtain ⟨cs,T,fr,hb,hd⟩:=yK h (g:=5) (t:=314) (e:=296) (len:=20) hm (by kernel_rfl) (by kernel_rfl) (by kernel_rfl) (by kernel_rfl)
 have hu:Tryz.prog.underlying 296=some (.int .u64):=by kernel_rfl
 have h0:((begin Tryz.prog (fun _ _=>0) default).world.heap[5]?).bind Obj.row?=some (Array.replicate 20 (.int .u64 0),314):=by kernel_rfl
 obtain ⟨cs',hh,hsz,_⟩:=hs.1 5 _ _ (fj (by kernel_rfl)) h0
 rw [hb] at hh
 have hcs:cs=cs':=by simp only [ap,Obj.cells.injEq] at hh; exact hh.1
 have hlen:cs.size=20:=by rw [hcs,hsz]; simp
 have key:cs=(kh.map fun z=>Value.int .u64 z).toArray:=by
  apply Array.ext
  ·rw [hlen]; rfl
  ·intro i h1 h2
   have hd':∀ (j:Nat) z,kh[j]?=some z→cs[j]?=some (.int .u64 z):=by
    intro j z hz
    obtain ⟨_,_,g⟩:=hd j (.lit (.int .u64 z)) (by
     have:(match (Rows.laid_internal_strconv_uint64pow10:DataW Unit) with | .agg l=>l | _=>[])=kh.map fun z=>DataW.lit (.int .u64 z):=by kernel_rfl
     have e2:(match (Rows.laid_internal_strconv_uint64pow10:DataW Unit) with | .agg l=>l | _=>[])[j]?=some (.lit (.int .u64 z)):=by
      rw [this,dh,hz]
      rfl
     exact e2)
    exact IR (OQ hu g)
   have hi:i < kh.length:=by simpa using h2
   have:=hd' i kh[i] (zJ hi)
   rw [hM h1,ap] at this
   rw [this,List.getElem_toArray,List.getElem_map]
 exact .tab .u64 kh 5 T fr (by rw [hb,key]) (fun h=>h)


theorem Nd:laidOutB Tryz.prog=true:=by kernel_rfl
def rL (P:Program) (t:TypeId):Bool:=match P.underlying t with
 | some (.struct _)=>true
 | _=>false
theorem BT {P:Program} {t:TypeId} (h:rL P t=true):∃ fs,P.underlying t=some (.struct fs):=by
 unfold rL at h
 split at h
 ·exact ⟨_,‹_›⟩
 ·cases h
theorem un4:Tryz.prog.underlying 4=some .bool:=by kernel_rfl

theorem zfU {H:Type} {enc:TypeId×Value→H} {W W':World} (hsame:∀ b,b < W.heap.size→W'.heap[b]?=W.heap[b]?) {t:TypeId} {v:Value} {d:DataW H} {ps:List MemPlace} (hr:Tryz.prog.readableRec t=true) (hrow:t < Tryz.prog.types.size)
  (h:DataW.Trod enc Tryz.prog W 0 (fun _=>true) true t v d ps) (hlt:∀ p∈ps,p.block < W.heap.size) {sp:Nat→Bool} (hs:∀ p∈ps,sp p.block=true):DataW.Trod enc Tryz.prog W' 0 sp true t v d ps:=
 WideElems.Trod_stays Nd hr hrow h (fun p hp=>by
  have h1:=hsame p.block (hlt p hp)
  cases p with
  | cell b off=>exact World.cell?_of_block h1
  | map b=>exact h1) hs

theorem QB {W:World} {l:List (String×DataW Unit)} (hL:laidMet Tryz.prog l W) (hs:W.ShapedOpen Tryz.prog) (h0:("caddis/stmt.types",Rows.laid_caddis_stmt_types)∈l) (h5:("internal/strconv.uint64pow10",Rows.laid_internal_strconv_uint64pow10)∈l):xS JC W U0:=by
 intro g
 match g with
 | 0=>exact gl0 hL h0
 | 1=>exact .any _
 | 2=>exact gl2 hs
 | 3=>exact .any _
 | 4=>exact .any _
 | 5=>exact gl5 hL hs h5
 | g+6=>exact .any _

theorem JX {P:Program} {W:World} {r:Go.Reach} {b:Nat} {t:TypeId} {v:Value} (ht:P.underlying t=some .string) (h:Value.okWide P W r b t v):∃ n,v=.string n:=by
 unfold Value.okWide at h
 rw [ht] at h
 simp only at h
 unfold Cell.okWide at h
 rw [ht] at h
 unfold Cell.ok at h
 rw [ht] at h
 cases v <;> simp at h
 exact ⟨_,rfl⟩

structure ux (t:TypeId) (s:Sh):Prop where
 got:∀ {H:Type} {enc:TypeId×Value→H} {W:World} {r:Go.Reach} {b:Nat} {v:Value} {d:DataW H} {ps:List MemPlace},Value.okWide Tryz.prog W r b t v→DataW.Trod enc Tryz.prog W 0 (fun _=>true) true t v d ps→∃ x:Sem s,Rv W U0 iy (zz s x) v
 rd:Tryz.prog.readableRec t=true
 row:t < Tryz.prog.types.size

set_option maxRecDepth 100000 in
theorem ux.struct {t:TypeId} {s:Sh} {n:Nat} (hty:G5 Tryz.prog n t s=true) (hs:s.isAgg=true) (ht:rL Tryz.prog t=true) (rd:Tryz.prog.readableRec t=true) (row:t < Tryz.prog.types.size):ux t s where
 got:=fun hok h=>by
  obtain ⟨fs,hu⟩:=BT ht
  exact FZ hty hs hu hok h
 rd:=rd
 row:=row
set_option maxRecDepth 100000 in
theorem ux.slice {t e:TypeId} {s:Sh} {n:Nat} (hty:G5 Tryz.prog n t (.sl s)=true) (ht:Tryz.prog.underlying t=some (.slice e)) (rd:Tryz.prog.readableRec t=true) (row:t < Tryz.prog.types.size):ux t (.sl s) where
 got:=fun hok h=>JI hty ht hok h
 rd:=rd
 row:=row
set_option maxRecDepth 100000 in
theorem ux.int {t:TypeId} {k:IntKind} {n:Nat} (hty:G5 Tryz.prog n t (.int k)=true) (ht:Tryz.prog.underlying t=some (.int k)) (rd:Tryz.prog.readableRec t=true) (row:t < Tryz.prog.types.size):ux t (.int k) where
 got:=fun hok h=>QE hty ht hok h
 rd:=rd
 row:=row
set_option maxRecDepth 100000 in
theorem ux.str {t:TypeId} {n:Nat} (hty:G5 Tryz.prog n t .str=true) (ht:Tryz.prog.underlying t=some .string) (rd:Tryz.prog.readableRec t=true) (row:t < Tryz.prog.types.size):ux t .str where
 got:=fun hok h=>by
  obtain ⟨m,rfl⟩:=JX ht hok
  exact tF (s:=.str) hty h ⟨(fun ⟨_,hh⟩=>(by cases hh)),(fun hh=>(by cases hh))⟩ (fun _=>rfl)
 rd:=rd
 row:=row

inductive E8:List TypeId→List Sh→Prop
 | nil:E8 [] []
 | cons {t:TypeId} {s:Sh} {ts:List TypeId} {ss:List Sh} (h:ux t s) (r:E8 ts ss):E8 (t::ts) (s::ss)

set_option maxRecDepth 100000 in
theorem E8.got {ts:List TypeId} {ss:List Sh} (h:E8 ts ss):∀ {H:Type} {enc:TypeId×Value→H} {W:World} {base:Nat} {vs:List Value} {ds:List (DataW H)} {ps:List MemPlace},
  (∀ (j:Nat) t v,ts[j]?=some t→vs[j]?=some v→Value.okWide Tryz.prog W .any base t v)→DataW.TrodAll enc Tryz.prog W 0 (fun _=>true) true ts vs ds ps→
  ds.length=ts.length∧(∃ x:zx (ss.map some),cK W U0 iy (gD (ss.map some) x) vs)∧
  ∀ W',(∀ b,b < W.heap.size→W'.heap[b]?=W.heap[b]?)→(∀ p∈ps,p.block < W.heap.size)→∀ sp:Nat→Bool,(∀ p∈ps,sp p.block=true)→DataW.TrodAll enc Tryz.prog W' 0 sp true ts vs ds ps:=by
 induction h with
 | nil=>
  intro H enc W base vs ds ps _ hT
  obtain ⟨rfl,rfl,rfl⟩:=trodAll_nil hT
  exact ⟨rfl,⟨(),rfl,fun j c v hc=>by
   have h0:([]:List AV)[j]?=some c:=hc
   simp at h0⟩,fun _ _ _ _ _=>trodAll_mk0⟩
 | @cons t s ts ss h r IH=>
  intro H enc W base vs ds ps hok hT
  obtain ⟨v,vs,d,ds,p,q,rfl,rfl,rfl,hd,hrest⟩:=trodAll_cons hT
  obtain ⟨x,hx⟩:=h.got (hok 0 t v rfl rfl) hd
  obtain ⟨hl,⟨y,hy⟩,hk⟩:=IH (fun j t v ht hv=>hok (j+1) t v ht hv) hrest
  refine ⟨by simp [hl],⟨(x,y),by show (zz s x::gD (ss.map some) y).length=_; simp [hy.len],fun j c v' hc hv=>?_⟩,fun W' hsame hlt sp hsp=>?_⟩
  ·have hc:(zz s x::gD (ss.map some) y)[j]?=some c:=hc
   cases j with
   | zero=>
    simp only [List.getElem?_cons_zero,ap] at hc hv
    subst hc
    subst hv
    exact hx
   | succ j=>exact hy.rv j c v' hc hv
  ·exact trodAll_cons_mk (zfU hsame h.rd h.row hd (fun p hp=>hlt p (by simp [hp])) (fun p hp=>hsp p (by simp [hp]))) (hk W' hsame (fun p hp=>hlt p (by simp [hp])) sp (fun p hp=>hsp p (by simp [hp])))

theorem Hm:∀ (ss:List Sh) (x:zx (ss.map some)),AV.idsL (gD (ss.map some) x)=[]
 | [],_=>rfl
 | s::ss,x=>by
  show (zz s x.1).ids++AV.idsL (gD (ss.map some) x.2)=[]
  rw [Hm ss x.2,jQ]
  unfold zz
  have hL:∀ l:List AV,(∀ c∈l,c.ids=[])→AV.idsL l=[]:=by
   intro l
   induction l with
   | nil=>intro _; rfl
   | cons c l ih=>intro h; simp only [AV.idsL,h c (by simp),ih fun c hc=>h c (by simp [hc]),jQ]
  have hE:∀ c∈zn s x.1,c.ids=[]:=fun c hc=>by
   obtain ⟨j,hj,rfl⟩:=List.getElem_of_mem hc
   exact jX s x.1 j _ (zJ hj)
  cases s.isAgg with
  | true=>exact hL _ hE
  | false=>
   cases hh:zn s x.1 with
   | nil=>rfl
   | cons c l=>exact hE c (by rw [hh]; simp)

set_option maxRecDepth 100000 in
theorem Je {k:FuncId} {f:Func} {s:ChangeSpec} {F:zF} {ts:List TypeId} {ss:List Sh} (hF:mv Tryz.prog JC k F) (hpar:f.params=ts.toArray) (hp:E8 ts ss) (hrt:f.resultTypes = #[4]) (hvars:s.vars=[])
  (hfn:∀ (H:Type) (ds:List (DataW H)),ds.length=ts.length→s.fn H ds={ results:=[.lit (.bool true)],args:=ds })
  {H:Type} {enc:TypeId×Value→H} {W:World} {base:Nat} {args:Array Value} {ds gs:List (DataW H)} {before:List MemPlace}
  (hv:∀ x:zx (ss.map some),cK W U0 iy (gD (ss.map some) x) args.toList→(F (gD (ss.map some) x) (fun _=>.dead) 0).val=some { val:=.bool true })
  (hval:∀ (j:Nat) t v,f.params[j]?=some t→args[j]?=some v→Value.okWide Tryz.prog W .any base t v)
  (hW:DataW.Whole enc Tryz.prog f.params.toList s.vars false W args.toList ds gs before) (hgl:xS JC W U0):
  Calls Tryz.prog k args W fun e W'=>∃ v,e=.returned v∧s.post enc Tryz.prog f false true false false W args v W':=by
 have hW':=hW
 obtain ⟨p,q,hA0,hV,rfl,hfz,hnd⟩:=hW
 have hA:DataW.TrodAll enc Tryz.prog W 0 (fun _=>true) true f.params.toList args.toList ds p:=hA0
 rw [hpar] at hA
 rw [hvars] at hV
 obtain ⟨rfl,rfl⟩:=trodVars_none hV
 have hlt:=hW'.lt
 obtain ⟨hl,⟨x,hx⟩,hk⟩:=hp.got (base:=base) (fun j t v ht hv=>hval j t v (by rw [hpar]; simpa using ht) (by simpa using hv)) hA
 have hc:=Ff hF (args:=args) hgl hx (hv x hx) (Hm ss x)
 refine hc.mono fun e' W' ⟨he,hext,hsame⟩=>?_
 subst he
 have hf2:s.fn H (ds++[])={ results:=[.lit (.bool true)],args:=ds }:=by rw [jQ]; exact hfn H ds hl
 refine ⟨_,rfl,Ek (pa:=p) (pv:=[]) hW' (fun _ _ _=>?_) (fun sp hsp=>?_) (fun _ _=>?_) (by simp) (BU hext.os hext.out hsame _) hext.fr (ok_one hrt rfl (okWide_bool_mk un4 _))⟩
 ·rw [hf2,hrt]
  exact trodAll_cons_mk (shut_bool un4 _) trodAll_mk0
 ·rw [hf2,hpar]
  exact hk W' hsame (fun p hp=>hlt p (by simpa using hp)) sp (fun p hp=>hsp p (by simpa using hp))
 ·rw [hf2,hvars]
  rfl
open Go Go.Proofs
set_option maxHeartbeats 4000000

abbrev Bu (t:zp):Sem zo:=(Dk,t,[],[],[],[],[],[],ze.mk [] (0,0,[]) [] [],[],[],ze.mk [] (0,0,[]) [] [],[])
theorem AU {t:zp} (ht:t.length≤1000):ek (Bu t):=⟨by simp,ht,by simp,⟨by simp,by simp⟩,⟨by simp,by simp⟩,by simp,⟨by simp,by simp⟩,⟨by simp,by simp⟩,by simp,⟨by simp,by simp⟩,by simp⟩
theorem J4 {t:zp} (ht:bt t=true):eP (Bu t)=true:=by
 have hs:=bO (s:=Bu t) (g:=true) (b:=true) (by
  have q0:(Dk==[99,114,101,97,116,101])=false:=rfl
  have q1:(Dk==[100,114,111,112])=true:=rfl
  simp only [ew,dF,Tr.val,q0,q1,zH,zm,ht,aR,↓reduceIte]
  rfl)
 rw [hs.2]
 rfl
theorem OP {t:zp} (ht:t.length≤1000):gg (Bu t)=[68,82,79,80,32,84,65,66,76,69,32]++t:=by
 obtain ⟨x,h,e⟩:∃ x,(oM (Bu t)).val=some (.inr (.str x,[]))∧x=[68,82,79,80,32,84,65,66,76,69,32]++t:=by
  have q0:(Dk==[99,114,101,97,116,101])=false:=rfl
  have q1:(Dk==[100,114,111,112])=true:=rfl
  simp only [oM,wn,Tr.val,q0,q1,if_true,zH,if_false,zm]
  repeat' (with_reducible refine gx ?_ ?_)
  all_goals first
   | exact ⟨_,rfl,rfl⟩
   | rfl
   | (refine aD ?_; simp [dm]; omega)
 rw [Ox h,e]
theorem QT {t:zp} (ht:bt t=true):dO (Bu t)=true:=by
 have hw:=IJ ht
 have hl:=sm hw
 have hs:=AU (t:=t) (by omega)
 have hp:=J4 ht
 have hl2:=(ta hs hp).2
 rw [OH,hp,Bool.true_and,zcx _ hl2,OP (by omega)]
 have e1:[68,82,79,80,32,84,65,66,76,69,32]++t=[68,82,79,80]++32::([84,65,66,76,69]++32::(t++[])):=by simp
 rw [e1]
 refine iO.now ?_ (aY _)
 exact iO.word (by kernel_rfl) (kr.sp _) (iO.sp (iO.word (by kernel_rfl) (kr.sp _) (iO.sp (iO.word hw kr.nil (iO.nil (by omega))))))

theorem JR (x0:List (Sem zh)) (x1:Sem zo):nR x0 x1=some (true,()):=by
 obtain ⟨db,d1,d2,d3⟩:=JP x0
 have hdb:Ay x0=db:=by unfold Ay; rw [d1]; rfl
 have hdc:Gj x0=true:=by unfold Gj; rw [d1]; rfl
 obtain ⟨s,s1,s2⟩:=Na x1
 have hf:M9 x1=s:=by unfold M9; rw [s1]; rfl
 have hfc:Gg x1=true:=by unfold Gg; rw [s1]; rfl
 have hS:=s2.sh
 have hsr:∀ y∈db,cu y:=fun y hy=>(d3 y hy).sh
 have fin:∀ {v:Bool},(i7w x0 x1).val=some (.inr (.bool v,[]))→v=true→nR x0 x1=some (true,()):=by
  intro v h e
  subst e
  exact iu h rfl
 have stop:∀ {d:List (Sem zh)} {a:Sem cw},gF db s=some (d,a,())→(s.1=Fj→a.1≠0)→nR x0 x1=some (true,()):=by
  intro d a h hne
  obtain ⟨h1,h2⟩:=Hw h
  have hc:(bif !s.1==[99,114,101,97,116,101] then true else a.1 != 0)=true:=by
   cases q:(s.1==[99,114,101,97,116,101]) with
   | false=>rfl
   | true=>simpa using hne (dR q)
  refine fin (v:=yM) ?_ Hn
  simp only [i7w,Tr.val,zm,Prod.eta,hdb,hdc,hf,hfc,h1,h2,hc,if_true]
 by_cases hB:aW db
 case neg=>exact stop (tI hS hsr fun h=>hB h.2) fun _=>by decide
 by_cases h0:s.1=Fj
 case neg=>
  obtain ⟨d,a,g,_⟩:=zcz d3 hB hS s2.cp
  exact stop g fun h=>absurd h h0
 by_cases hm:dO s=true
 case neg=>exact stop (tI hS hsr fun h=>hm h.1) fun _=>by decide
 obtain ⟨hn,_⟩:=AC h0 (tf hm)
 obtain ⟨t,e,k1,k2⟩:=Ow hS s2.cp h0 hm
 have ht:e=0→gn t=true∧ch ((t,[]):Sem zh):=fun h=>by
  obtain ⟨_,q2,q3,q4,q5⟩:=k2 h
  exact ⟨q2,oF q3 q4 q5 s2.cp⟩
 rcases oZ hB d3 k1 ht with ⟨g0,g⟩ | ⟨_,_,g⟩ | ⟨_,_,_,g⟩ | ⟨g0,g1,g2,b,g3,g⟩
 ·exact stop (iQ hS hsr hm hB h0 g) fun _=>g0
 ·exact stop (iQ hS hsr hm hB h0 g) fun _=>by decide
 ·exact stop (iQ hS hsr hm hB h0 g) fun _=>by decide
 have g:=iQ hS hsr hm hB h0 g
 cases b with
 | false=>exact stop g fun _=>by decide
 | true=>
 obtain ⟨d,hd⟩:∃ d,ec db (t,[])=d:=⟨_,rfl⟩
 have hbd:=g3.1 rfl
 have hBd:aW d:=by rw [← hd]; exact hB.more (x:=(t,[])) g1 g2 (ck.new (ht g0).1) hbd
 have hsd:∀ y∈d,ch y:=fun y hy=>by
  rw [← hd] at hy
  rcases kU.1 hy with rfl | hy
  ·exact (ht g0).2
  ·exact d3 y hy
 have hsrd:∀ y∈d,cu y:=fun y hy=>(hsd y hy).sh
 have hfd:LE.le (α:=Int) 0 (zO d t.1):=by rw [← hd]; exact FV (db:=db) (x:=(t,[]))
 have htn:t.1=s.2.1:=(k2 g0).1
 have again:gF d s=some (d,dL 7,()):=by
  rcases oZ hBd hsd k1 ht with ⟨r0,_⟩ | ⟨_,_,r⟩ | ⟨_,r1,_⟩ | ⟨_,r1,_⟩
  ·exact absurd g0 r0
  ·exact iQ hS hsrd hm hBd h0 r
  ·rw [r1] at hfd; exact absurd hfd (by decide)
  ·rw [r1] at hfd; exact absurd hfd (by decide)
 have hwl:=sm (IJ hn)
 have hdS:=AU (t:=s.2.1) (by omega)
 have last:gF d (Bu s.2.1)=some (db,(0,1,[]),()):=by
  obtain ⟨b,r1,r⟩:=Dh (s:=Bu s.2.1) hBd hsd (Int.not_lt.2 (by rw [← htn]; exact hfd))
  have hw:bf d s.2.1=db:=by rw [← hd,← htn]; exact ym (x:=(t,[])) g1
  have r1:b=true↔lZ (bf d s.2.1):=r1
  rw [hw] at r1
  have hbt:b=true:=r1.2 hB.bound
  subst hbt
  have r:=Be hdS hsrd (QT hn) hBd rfl r
  have hw':bf d (Bu s.2.1).2.1=db:=hw
  rw [hw'] at r
  exact r
 rw [hd] at g
 have g:gF db s=some (d,(0,1,[]),()):=g
 obtain ⟨a1,a2⟩:=Hw g
 obtain ⟨b1,b2⟩:=Hw again
 obtain ⟨c1,c2⟩:=Hw last
 obtain ⟨e1,e2⟩:=IK hBd hsd rfl
 obtain ⟨f1,f2⟩:=IK hB d3 rfl
 have z1:decide (GE.ge (α:=Int) (zO d s.2.1) 0)=true:=aq (by rw [← htn]; exact hfd)
 have z2:(s.1==[99,114,101,97,116,101])=true:=by rw [h0]; rfl
 have z3:((0:Int) != 0)=false:=rfl
 have z4:((7:Int)==7)=true:=rfl
 have z5:((0:Int)==0)=true:=rfl
 have z6:((1:Int)==1)=true:=rfl
 refine fin (v:=yM) ?_ Hn
 simp only [i7w,Tr.val,zm,Prod.eta,hdb,hdc,hf,hfc,a1,a2,b1,b2,c1,c2,e1,e2,f1,f2,z1,z2,z3,z4,z5,z6,fk,aR,bb,KZ,mG,zH,if_true,if_false]

theorem Jg (x:zx ([.sl zh,zo].map some)) {W:World} {vs:List Value} (_:cK W U0 iy (gD ([.sl zh,zo].map some) x) vs):(F7w (gD ([.sl zh,zo].map some) x) (fun _=>.dead) 0).val=some { val:=.bool true }:=by
 obtain ⟨db,s,u⟩:=x
 have h:(F7w [.sl zh db,.agg (zn zo s)] (fun _=>.dead) 0).val=(Tr.chk (nR db (s.1,s.2.1,s.2.2.1,s.2.2.2.1,s.2.2.2.2.1,s.2.2.2.2.2.1,s.2.2.2.2.2.2.1,s.2.2.2.2.2.2.2.1,zE s.2.2.2.2.2.2.2.2.1,s.2.2.2.2.2.2.2.2.2.1,s.2.2.2.2.2.2.2.2.2.2.1,zE s.2.2.2.2.2.2.2.2.2.2.2.1,s.2.2.2.2.2.2.2.2.2.2.2.2)).isSome (Tr.ok ({ val:=.bool ((nR db (s.1,s.2.1,s.2.2.1,s.2.2.2.1,s.2.2.2.2.1,s.2.2.2.2.2.1,s.2.2.2.2.2.2.1,s.2.2.2.2.2.2.2.1,zE s.2.2.2.2.2.2.2.2.1,s.2.2.2.2.2.2.2.2.2.1,s.2.2.2.2.2.2.2.2.2.2.1,zE s.2.2.2.2.2.2.2.2.2.2.2.1,s.2.2.2.2.2.2.2.2.2.2.2.2)).getD (cq [.bool])).1 }:eE))).val:=by kernel_rfl
 show (F7w [.sl zh db,.agg (zn zo s)] (fun _=>.dead) 0).val=_
 rw [h,JR]
 rfl
end Cad
