/- What the package variables hold when a law begins. Laws on a base and a statement: the contract. The law PlanRows holds. The law PlanRows as a contract: a base of the world has numbers of 64 bits. -/
import Derived.Test.YtfgnbipebgibeaaGreatDoorG18
import Derived.Test.YtfgnbipebgibeaaGreatDoorG06
import Derived.Test.YtfgnbipebgibeaaGreatDoorRows
import Derived.OpenShut
import Derived.ProofKit
import Derived.Test.YtfgnbipebgibeaaGreatDoorG11
import Derived.Test.YtfgnbipebgibeaaGreatDoorG14
namespace Cad
open Go Go.Proofs Go.RowKit Go.ChangeShapes Go.WideShapes Go.ChangeAt Go.Proofs.YtfgnbipebgibeaaGreatDoor

theorem zwC {P:Program} {w:World}:∀ {l:List (String×DataW Unit)} {ps:List MemPlace},DataW.LaidVars P w l ps→∀ n d,(n,d)∈l→
  ∃ g t cs fuel p,P.globalNamed n=some g∧(P.globals[g]?).map (·.type)=some t∧w.var? P n=some cs∧DataW.trod (fun _=>()) P w 0 (fun _=>true) false fuel t cs.toList=some (d,p)
 | [],_,_,_,_,h=>by simp at h
 | (n0,d0)::r,ps,h,n,d,hm=>by
  obtain ⟨g,t,cs,fuel,p,q,h1,h2,h3,h4,h5,_⟩:=h
  rcases List.mem_cons.1 hm with e | hm
  ·cases e
   exact ⟨g,t,cs,fuel,p,h1,h2,h3,h4⟩
  ·exact zwC h5 n d hm

theorem zuy {P:Program} {l:List (String×DataW Unit)} {w:World} (hf:(l.filter fun x=>x.2.handleName?.isSome).isEmpty=true) (h:laidMetH P l w):laidMet P l w:=by
 unfold laidMetH at h
 split at h
 ·exact h
 ·rename_i a b hab
  rw [hab] at hf
  simp at hf

theorem ziO {H:Type} {enc:TypeId×Value→H} {P:Program} {w:World} {base:Nat} {sp:Nat→Bool} {held:Bool} {fuel:Nat} {t:TypeId} (ht:P.underlying t=some .string) {cs:List Value} {b:List UInt8} {p:List MemPlace}
  (h:DataW.trod enc P w base sp held fuel t cs=some (.lit (.string b),p)):cs=[.string ⟨b.toArray⟩]:=by
 cases fuel with
 | zero=>simp [DataW.trod] at h
 | succ fuel=>
  unfold DataW.trod at h
  rw [ht] at h
  split at h
  all_goals first
   | (rename_i hu; cases hu; done)
   | (rename_i hu _; cases hu; done)
   | (simp at h; done)
   | skip
  rename_i s hu
  split at h
  ·simp only [Option.some.injEq,Prod.mk.injEq,DataW.lit.injEq,Lit.string.injEq] at h
   rw [← h.1]
  ·cases h

theorem zHb {H:Type} {enc:TypeId×Value→H} {P:Program} {w:World} {base:Nat} {sp:Nat→Bool} {held:Bool} {fuel:Nat} {t:TypeId} (ht:P.underlying t=some (.int .u64)) {cs:List Value} {z:Int} {p:List MemPlace}
  (h:DataW.trod enc P w base sp held fuel t cs=some (.lit (.int .u64 z),p)):cs=[.int .u64 z]:=by
 cases fuel with
 | zero=>simp [DataW.trod] at h
 | succ fuel=>
  unfold DataW.trod at h
  rw [ht] at h
  split at h
  all_goals first
   | (rename_i hu; cases hu; done)
   | (rename_i hu _; cases hu; done)
   | (simp at h; done)
   | skip
  all_goals (try split at h)
  all_goals first
   | (cases h; done)
   | (simp at h; done)
   | skip
  all_goals simp_all

theorem zth {W:World} {l:List (String×DataW Unit)} (h:laidMet Tryz.prog l W) {name:String} {g:Nat} {t e:TypeId} {len:Nat} {ds:List (DataW Unit)} (hm:(name,DataW.agg ds)∈l)
  (hg:Tryz.prog.globalNamed name=some g) (ht:(Tryz.prog.globals[g]?).map (·.type)=some t) (hu:Tryz.prog.underlying t=some (.array len e)) (hc:Tryz.prog.cellsOf e=1):
  ∃ cs T fr,W.heap[g]?=some (.cells cs T fr)∧∀ (j:Nat) d,ds[j]?=some d→∃ fuel p,DataW.trod (fun _=>()) Tryz.prog W 0 (fun _=>true) false fuel e ((cs.toList.drop j).take 1)=some (d,p):=by
 obtain ⟨ps,hL,_,_⟩:=h
 obtain ⟨g',t',cs,fuel,p,h1,h2,h3,h4⟩:=zwC hL name _ hm
 rw [hg] at h1
 cases h1
 rw [ht] at h2
 cases h2
 have hvar:∃ T fr,W.heap[g]?=some (.cells cs T fr):=by
  unfold World.var? at h3
  rw [hg] at h3
  simp only [Option.bind_some] at h3
  split at h3
  ·rename_i c T fr hh
   cases h3
   exact ⟨T,fr,hh⟩
  ·cases h3
 obtain ⟨T,fr,hblk⟩:=hvar
 refine ⟨cs,T,fr,hblk,?_⟩
 cases fuel with
 | zero=>simp [DataW.trod] at h4
 | succ fuel=>
  unfold DataW.trod at h4
  rw [hu] at h4
  simp only at h4
  split at h4
  ·rw [Option.map_eq_some_iff] at h4
   obtain ⟨xs,hm',hx⟩:=h4
   simp only [Prod.mk.injEq,DataW.agg.injEq] at hx
   obtain ⟨hl,hg'⟩:=zqP hm'
   intro j d hj
   rw [← hx.1,List.getElem?_map,Option.map_eq_some_iff] at hj
   obtain ⟨⟨d',p'⟩,hj,rfl⟩:=hj
   have hjl:j < xs.length:=(List.getElem?_eq_some_iff.1 hj).1
   have hr:(List.range len)[j]?=some j:=by
    rw [List.getElem?_range]
    rw [hl,List.length_range] at hjl
    exact hjl
   have:=hg' j j hr
   rw [hj,hc,Nat.mul_one] at this
   exact ⟨fuel,p',this⟩
  ·cases h4

theorem zBq {cs:Array Value} {j:Nat} {v:Value} (h:(cs.toList.drop j).take 1=[v]):cs[j]?=some v:=by
 have:=congrArg (·[0]?) h
 simp only [List.getElem?_take,List.getElem?_drop] at this
 simpa using this

theorem gl0 {W:World} {l:List (String×DataW Unit)} (h:laidMet Tryz.prog l W) (hm:("caddis/stmt.types",Rows.laid_caddis_stmt_types)∈l):Rv W U0 zfB (.eptr [.str [73,78,84],.str [84,69,88,84],.str [66,79,79,76]] 0) (.pointer (some ⟨0,0,none⟩)):=by
 obtain ⟨cs,T,fr,hb,hd⟩:=zth h (g:=0) (t:=233) (e:=9) (len:=3) hm (by kernel_rfl) (by kernel_rfl) (by kernel_rfl) (by kernel_rfl)
 have hs9:Tryz.prog.underlying 9=some .string:=by kernel_rfl
 have hcell:∀ j,W.cell? ⟨0,j,none⟩=cs[j]?:=by
  intro j
  unfold World.cell?
  rw [hb]
  rfl
 obtain ⟨_,_,g0⟩:=hd 0 _ rfl
 obtain ⟨_,_,g1⟩:=hd 1 _ rfl
 obtain ⟨_,_,g2⟩:=hd 2 _ rfl
 have w0:=zBq (ziO hs9 g0)
 have w1:=zBq (ziO hs9 g1)
 have w2:=zBq (ziO hs9 g2)
 refine .eptr [.str [73,78,84],.str [84,69,88,84],.str [66,79,79,76]] 0 0 0 (fun j=>match j with
  | 0=>.string ⟨#[73,78,84]⟩
  | 1=>.string ⟨#[84,69,88,84]⟩
  | _=>.string ⟨#[66,79,79,76]⟩) (zuq (by rw [hcell]; exact w0)) (fun h=>h) ?_ ?_ ?_
 ·intro j hj
  match j,hj with
  | 0,_=>rw [hcell]; exact w0
  | 1,_=>rw [hcell]; exact w1
  | 2,_=>rw [hcell]; exact w2
 ·intro j hj
  match j,hj with
  | 0,_=>rfl
  | 1,_=>rfl
  | 2,_=>rfl
 ·intro j c hc
  match j,hc with
  | 0,hc=>simp at hc; subst hc; exact .str [73,78,84] (by simp [zI])
  | 1,hc=>simp at hc; subst hc; exact .str [84,69,88,84] (by simp [zI])
  | 2,hc=>simp at hc; subst hc; exact .str [66,79,79,76] (by simp [zI])
  | j+3,hc=>simp at hc

set_option maxRecDepth 100000 in
theorem gl2 {W:World} (h:W.ShapedOpen Tryz.prog):Rv W U0 zfB .gint (.pointer (some ⟨2,0,none⟩)):=by
 have h0:((begin Tryz.prog (fun _ _=>0) default).world.heap[2]?).bind Obj.row?=some (#[.int .i64 0],3):=by kernel_rfl
 obtain ⟨cs,hh,hs,hr⟩:=h.1 2 _ _ (of_decide_eq_true (by kernel_rfl)) h0
 obtain ⟨ts,hts,_,hall⟩:=hr (by kernel_rfl)
 have hc:Tryz.prog.cellTypes Tryz.prog.depth 3=some [3]:=by kernel_rfl
 rw [hc] at hts
 cases hts
 have h1:cs.size=1:=hs
 obtain ⟨u,hu,hok⟩:=hall 0 cs[0] (by simp)
 have:u=3:=by simpa using hu.symm
 subst this
 have hi:Tryz.prog.underlying 3=some (.int .i64):=by kernel_rfl
 unfold Cell.ok at hok
 rw [hi] at hok
 have hcs:cs = #[cs[0]]:=by
  apply Array.ext
  ·simp [h1]
  ·intro i h2 h3
   have:i=0:=by omega
   subst this
   rfl
 cases hv:cs[0] <;> rw [hv] at hok <;> simp at hok
 rename_i k n
 obtain ⟨rfl,hn⟩:=hok
 refine .gint n 2 3 (0,0) hn ?_ (fun h=>h)
 rw [hh,hcs,hv]

theorem gl5 {W:World} {l:List (String×DataW Unit)} (h:laidMet Tryz.prog l W) (hs:W.ShapedOpen Tryz.prog) (hm:("internal/strconv.uint64pow10",Rows.laid_internal_strconv_uint64pow10)∈l):Rv W U0 zfB (.tab .u64 zgO) (.pointer (some ⟨5,0,none⟩)):=by
 obtain ⟨cs,T,fr,hb,hd⟩:=zth h (g:=5) (t:=297) (e:=279) (len:=20) hm (by kernel_rfl) (by kernel_rfl) (by kernel_rfl) (by kernel_rfl)
 have hu:Tryz.prog.underlying 279=some (.int .u64):=by kernel_rfl
 have h0:((begin Tryz.prog (fun _ _=>0) default).world.heap[5]?).bind Obj.row?=some (Array.replicate 20 (.int .u64 0),297):=by kernel_rfl
 obtain ⟨cs',hh,hsz,_⟩:=hs.1 5 _ _ (of_decide_eq_true (by kernel_rfl)) h0
 rw [hb] at hh
 have hcs:cs=cs':=by simp only [Option.some.injEq,Obj.cells.injEq] at hh; exact hh.1
 have hlen:cs.size=20:=by rw [hcs,hsz]; simp
 have key:cs=(zgO.map fun z=>Value.int .u64 z).toArray:=by
  apply Array.ext
  ·rw [hlen]; rfl
  ·intro i h1 h2
   have hd':∀ (j:Nat) z,zgO[j]?=some z→cs[j]?=some (.int .u64 z):=by
    intro j z hz
    obtain ⟨_,_,g⟩:=hd j (.lit (.int .u64 z)) (by
     have:(match (Rows.laid_internal_strconv_uint64pow10:DataW Unit) with | .agg l=>l | _=>[])=zgO.map fun z=>DataW.lit (.int .u64 z):=by kernel_rfl
     have e2:(match (Rows.laid_internal_strconv_uint64pow10:DataW Unit) with | .agg l=>l | _=>[])[j]?=some (.lit (.int .u64 z)):=by
      rw [this,List.getElem?_map,hz]
      rfl
     exact e2)
    exact zBq (zHb hu g)
   have hi:i < zgO.length:=by simpa using h2
   have:=hd' i zgO[i] (List.getElem?_eq_getElem hi)
   rw [Array.getElem?_eq_getElem h1,Option.some.injEq] at this
   rw [this,List.getElem_toArray,List.getElem_map]
 exact .tab .u64 zgO 5 T fr (by rw [hb,key]) (fun h=>h)

open Go Go.Proofs Go.RowKit Go.ChangeShapes Go.WideShapes Go.ChangeAt Go.Proofs.YtfgnbipebgibeaaGreatDoor

theorem zDE:laidOutB Tryz.prog=true:=by kernel_rfl
theorem zXD:tyB Tryz.prog 9 22 (.sl zk)=true:=by kernel_rfl
theorem zWq:tyB Tryz.prog 9 34 zu=true:=by kernel_rfl
def zss (P:Program) (t:TypeId):Bool:=match P.underlying t with
 | some (.struct _)=>true
 | _=>false
theorem zve {P:Program} {t:TypeId} (h:zss P t=true):∃ fs,P.underlying t=some (.struct fs):=by
 unfold zss at h
 split at h
 ·exact ⟨_,‹_›⟩
 ·cases h
theorem zX6:∃ fs,Tryz.prog.underlying 34=some (.struct fs):=zve (by kernel_rfl)
theorem zW4:Tryz.prog.underlying 22=some (.slice 43):=by kernel_rfl
theorem un4:Tryz.prog.underlying 4=some .bool:=by kernel_rfl

theorem zKN {H:Type} {enc:TypeId×Value→H} {W W':World} (hsame:∀ b,b < W.heap.size→W'.heap[b]?=W.heap[b]?) {t:TypeId} {v:Value} {d:DataW H} {ps:List MemPlace} (hr:Tryz.prog.readableRec t=true) (hrow:t < Tryz.prog.types.size)
  (h:DataW.Trod enc Tryz.prog W 0 (fun _=>true) true t v d ps) (hlt:∀ p∈ps,p.block < W.heap.size) {sp:Nat→Bool} (hs:∀ p∈ps,sp p.block=true):DataW.Trod enc Tryz.prog W' 0 sp true t v d ps:=
 WideElems.Trod_stays zDE hr hrow h (fun p hp=>by
  have h1:=hsame p.block (hlt p hp)
  cases p with
  | cell b off=>exact World.cell?_of_block h1
  | map b=>exact h1) hs

theorem zI3 {W:World} {l:List (String×DataW Unit)} (hL:laidMet Tryz.prog l W) (hs:W.ShapedOpen Tryz.prog) (h0:("caddis/stmt.types",Rows.laid_caddis_stmt_types)∈l) (h5:("internal/strconv.uint64pow10",Rows.laid_internal_strconv_uint64pow10)∈l):zr0 zrA W U0:=by
 intro g
 match g with
 | 0=>exact gl0 hL h0
 | 1=>exact .any _
 | 2=>exact gl2 hs
 | 3=>exact .any _
 | 4=>exact .any _
 | 5=>exact gl5 hL hs h5
 | g+6=>exact .any _

def zYa:zJ:=zaf [.sl zk,zu] [.bool] fun _=>(true,())
set_option maxRecDepth 100000 in
theorem zyh {k:FuncId} {f:Func} {s:ChangeSpec} {F:zJ} (hF:FOk Tryz.prog zrA k F) (hpar:f.params = #[22,34]) (hrt:f.resultTypes = #[4]) (hvars:s.vars=[])
  (hfn:∀ (H:Type) (d0 d1:DataW H),s.fn H [d0,d1]={ results:=[.lit (.bool true)],args:=[d0,d1] })
  {H:Type} {enc:TypeId×Value→H} {W:World} {base:Nat} {args:Array Value} {ds gs:List (DataW H)} {before:List MemPlace}
  (hv:∀ (db:List (Sem zk)) (st:Sem zu) (v:Value),Rv W U0 zfB (.sl zk db) v→(F [.sl zk db,zx zu st] (fun _=>.dead) 0).val=some { val:=.bool true })
  (hval:∀ (j:Nat) t v,f.params[j]?=some t→args[j]?=some v→Value.okWide Tryz.prog W .any base t v)
  (hW:DataW.Whole enc Tryz.prog f.params.toList s.vars false W args.toList ds gs before) (hgl:zr0 zrA W U0):
  Calls Tryz.prog k args W fun e W'=>∃ v,e=.returned v∧s.post enc Tryz.prog f false true false false W args v W':=by
 have hW':=hW
 obtain ⟨p,q,hA0,hV,rfl,hfz,hnd⟩:=hW
 have hA:DataW.TrodAll enc Tryz.prog W 0 (fun _=>true) true f.params.toList args.toList ds p:=hA0
 rw [hpar] at hA
 obtain ⟨v0,v1,d0,d1,p0,p1,rfl,rfl,rfl,h0,h1⟩:=trodAll_two hA
 rw [hvars] at hV
 obtain ⟨rfl,rfl⟩:=trodVars_none hV
 have hlt:=hW'.lt
 obtain ⟨f34,u34⟩:=zX6
 have q0:f.params[0]?=some 22:=by rw [hpar]; rfl
 have q1:f.params[1]?=some 34:=by rw [hpar]; rfl
 have e0:(#[v0,v1]:Array Value)[0]?=some v0:=by simp
 have e1:(#[v0,v1]:Array Value)[1]?=some v1:=by simp
 have k0:=hval 0 22 v0 q0 e0
 have k1:=hval 1 34 v1 q1 e1
 obtain ⟨db,rd⟩:=zBN zXD zW4 k0 h0
 obtain ⟨st,rs⟩:=zze zWq rfl u34 k1 h1
 have hrv:RvL W U0 zfB [.sl zk db,zx zu st] (#[v0,v1]:Array Value).toList:=by
  refine ⟨rfl,fun j c v hc hv=>?_⟩
  match j,hc,hv with
  | 0,hc,hv=>simp at hc hv; subst hc; subst hv; exact rd
  | 1,hc,hv=>simp at hc hv; subst hc; subst hv; exact rs
  | j+2,hc,_=>simp at hc
 have hc:=zyW hF (args := #[v0,v1]) hgl hrv (hv db st v0 rd) rfl
 refine hc.mono fun e' W' ⟨he,hext,hsame⟩=>?_
 subst he
 have hmem:∀ (p:MemPlace),p∈p0∨p∈p1→p∈p0++p1++[]:=by
  intro p hp
  simp only [List.append_nil,List.mem_append]
  exact hp
 have hf2:s.fn H ([d0,d1]++[])={ results:=[.lit (.bool true)],args:=[d0,d1] }:=hfn H d0 d1
 refine ⟨_,rfl,zv3 (pa:=p0++p1) (pv:=[]) hW' (fun _ _ _=>?_) (fun sp hsp=>?_) (fun _ _=>?_) (by simp) (zvo hext.os hext.out hsame _) hext.fr (ok_one hrt rfl (okWide_bool_mk un4 _))⟩
 ·rw [hf2,hrt]
  exact trodAll_cons_mk (shut_bool un4 _) trodAll_mk0
 ·rw [hf2,hpar]
  exact trodAll_mk2 (zKN hsame (by kernel_rfl) (of_decide_eq_true (by kernel_rfl)) h0 (fun p hp=>hlt p (hmem p (.inl hp))) (fun p hp=>hsp p (hmem p (.inl hp))))
   (zKN hsame (by kernel_rfl) (of_decide_eq_true (by kernel_rfl)) h1 (fun p hp=>hlt p (hmem p (.inr hp))) (fun p hp=>hsp p (hmem p (.inr hp))))
 ·rw [hf2,hvars]
  rfl
open Go Go.Proofs
set_option maxHeartbeats 4000000

theorem zwB:ztQ=true:=by unfold ztQ; rw [zqm]; rfl
theorem zwJ:zxM=true:=by unfold zxM; rw [zqm]; rfl

theorem znz:∀ (N:Nat) (e:ze),cpC N e=true→zcb N e e=some (true,())
 | 0,_,h=>by cases h
 | N+1,.mk op v s l,h=>by
  rw [cpC] at h
  simp only [Bool.and_eq_true,decide_eq_true_eq,List.all_eq_true] at h
  obtain ⟨hl,ha⟩:=h
  rw [zcb]
  unfold ztR
  generalize he:(ze.mk op v s l)=e
  have hel:ze.l e=l:=by rw [← he]; rfl
  have hgo:=zaz.all (t:=zyT (fun x0 x1=>zh0 (zcb N x0 x1)) (fun x0 x1=>(zcb N x0 x1).isSome)) 1 (fun i=>.h4 (i:Int) (e,()) (e,())) (ze.l e).length (by
   intro i hi
   refine zaz.of ?_
   have hm:List.getD (ze.l e) i (zl Sh.expr)∈l:=by rw [hel] at hi ⊢; exact zaO hi
   have hn:=znz N _ (ha _ hm)
   have hlen:(ze.l e).length≤1073741824:=by rw [hel]; exact hl
   simp only [zyT,zuU,zox,Tr.val,zw,zV hi,zK hi,Int.toNat_natCast,hn,Option.isSome_some,if_true]
   rw [zH i (by unfold zI; omega)]
   rfl)
  refine zO (s:=.h4 ((0:Nat):Int) (e,()) (e,())) (r:=(.kb true,[])) ?_ (hgo.ends (zaI.of ?_)) (by rw [hel]; omega) rfl
  ·simp only [zud,Tr.val]
   have e1:(bif !ze.op e==ze.op e then true else bif !((ze.v e).1==(ze.v e).1&&((ze.v e).2.1==(ze.v e).2.1&&((ze.v e).2.2==(ze.v e).2.2&&true))) then true else bif !ze.s e==ze.s e then true else (↑(ze.l e).length:Int) != (↑(ze.l e).length:Int))=false:=by simp
   rw [e1]
   rfl
  ·simp only [zyT,zuU,zox,Tr.val,zP]
   rfl

theorem zxL {t:Sem zn} (hc:t.2.1.length≤1000000) (hu:t.2.2.2.1.length≤1000000) (hr:t.2.2.2.2.1.length≤1000000) (he:cpC 16 t.2.2.2.2.2=true):zuG t t=some (true,()):=by
 have hs:zoP t.2.2.2.2.2 t.2.2.2.2.2=some (true,()):=znz 16 _ he
 have hsc:zh8 t.2.2.2.2.2 t.2.2.2.2.2=true:=by unfold zh8; rw [hs]; rfl
 have hsv:zkB t.2.2.2.2.2 t.2.2.2.2.2=true:=by unfold zkB; rw [hs]; rfl
 have hi:(zEH t t).val=some (.inl (.h4 ((0:Nat):Int) (t,()) (t,()))):=by
  simp only [zEH,Tr.val]
  rw [if_neg (by simp)]
  rfl
 have g4:=zaz.all (t:=zkT) 1 (fun i=>.h4 (i:Int) (t,()) (t,())) t.2.1.length (by
  intro i hi
  refine zaz.of ?_
  simp only [zkT,zzl,zuu,Tr.val,zV hi,zK hi,if_true]
  rw [if_neg (by simp),zH i (by unfold zI; omega)])
 have v4:(zkT (.h4 (t.2.1.length:Int) (t,()) (t,()))).val=some (.inl (.h9 ((0:Nat):Int) (t,()) (t,()))):=by
  simp only [zkT,zzl,zuu,Tr.val,zP]
  rfl
 have g9:=zaz.all (t:=zkT) 1 (fun i=>.h9 (i:Int) (t,()) (t,())) t.2.2.2.1.length (by
  intro i hi
  refine zaz.of ?_
  simp only [zkT,zzx,zvx,Tr.val,zV hi,zK hi,if_true]
  rw [if_neg (by simp),zH i (by unfold zI; omega)])
 have v9:(zkT (.h9 (t.2.2.2.1.length:Int) (t,()) (t,()))).val=some (.inl (.h14 ((0:Nat):Int) (t,()) (t,()))):=by
  simp only [zkT,zzx,zvx,Tr.val,zP]
  rfl
 have g14:=zaz.all (t:=zkT) 1 (fun i=>.h14 (i:Int) (t,()) (t,())) t.2.2.2.2.1.length (by
  intro i hi
  refine zaz.of ?_
  simp only [zkT,zvK,zqU,Tr.val,zV hi,zK hi,if_true]
  rw [if_neg (by simp),zH i (by unfold zI; omega)])
 have v14:(zkT (.h14 (t.2.2.2.2.1.length:Int) (t,()) (t,()))).val=some (.inr (.bool true,[])):=by
  simp only [zkT,zvK,zqU,Tr.val,zP,zw,hsc,hsv]
  rfl
 exact zO hi (g4.ends ((zaz.of v4).ends (g9.ends ((zaz.of v9).ends (g14.ends (zaI.of v14)))))) (by omega) rfl

theorem zlk {p:Sem zas} (hc:p.2.2.2.1.2.1.length≤1000000) (hu:p.2.2.2.1.2.2.2.1.length≤1000000) (hr:p.2.2.2.1.2.2.2.2.1.length≤1000000) (he:cpC 16 p.2.2.2.1.2.2.2.2.2=true) (hx:p.2.2.2.2.1.length≤1000000):zml p p=some (true,()):=by
 have hs:=zxL hc hu hr he
 have hsc:zoF p.2.2.2.1 p.2.2.2.1=true:=by unfold zoF; rw [hs]; rfl
 have hsv:zvQ p.2.2.2.1 p.2.2.2.1=true:=by unfold zvQ; rw [hs]; rfl
 have hi:(zC9 p p).val=some (.inl (.h4 ((0:Nat):Int) (p,()) (p,()))):=by
  simp only [zC9,zKs,Tr.val,zw,Prod.eta,hsc,hsv]
  rw [if_pos (by simp),if_neg (by simp)]
  rfl
 have g4:=zaz.all (t:=zCa) 1 (fun i=>.h4 (i:Int) (p,()) (p,())) p.2.2.2.2.1.length (by
  intro i hi
  refine zaz.of ?_
  simp only [zCa,zyI,zva,Tr.val,zV hi,zK hi,if_true]
  rw [if_neg (by simp),zH i (by unfold zI; omega)])
 refine zO hi (g4.ends (zaI.of (r:=(.kb true,[])) ?_)) (by omega) rfl
 simp only [zCa,zyI,zva,Tr.val,zP]
 rfl

theorem zHR {db:List (Sem zk)} (h:zpm db):zpm (bare db) where
 few:=by rw [zgY]; exact h.few
 names:=by
  intro i hi
  rw [zgY] at hi
  rw [zfN,zfN]
  exact h.names i hi
 rels:=by
  intro x hx
  obtain ⟨y,hy,rfl⟩:=List.mem_map.1 hx
  exact ⟨(h.rels y hy).may,by simp,by simp,List.Pairwise.nil,fun _ _=>List.Pairwise.nil,fun i hi=>absurd hi (by simp)⟩
 bound:=by
  intro x hx f hf
  obtain ⟨y,hy,rfl⟩:=List.mem_map.1 hx
  refine ⟨?_,by simp⟩
  rw [zky]
  exact (h.bound y hy f hf).1

theorem zxC {x0:Sem zk.sl} {x1:Sem zu} (hx:∀ x∈x0,RgR x):zy5 x0 x1=some (true,()):=by
 obtain ⟨db,d1,d2,d3⟩:=zGB x0
 obtain ⟨s,s1,s2⟩:=zDL x1
 have hdb:zAg x0=db:=by unfold zAg; rw [d1]; rfl
 have hdc:zvt x0=true:=by unfold zvt; rw [d1]; rfl
 have hs:zAX x1=s:=by unfold zAX; rw [s1]; rfl
 have hsc:zvc x1=true:=by unfold zvc; rw [s1]; rfl
 have hwf:∀ x∈db,WfR x:=by
  intro x hxm
  obtain ⟨y,hy,rfl⟩:=d3 x hxm
  exact zGK (hx y hy)
 have hsh:∀ x∈db,zhQ x:=fun x hxm=>(hwf x hxm).short
 have hshb:∀ x∈bare db,zhQ x:=by
  intro x hxm
  obtain ⟨y,hy,rfl⟩:=List.mem_map.1 hxm
  exact ⟨(hsh y hy).uq,(hsh y hy).rf,by simp⟩
 have hi:(i3p x0 x1).val=some (.inl (.h4 db ((0:Nat):Int) (s,()) [])):=by
  simp only [i3p,zTw,Tr.val,zw,Prod.eta,hdb,hdc,hs,hsc]
  rfl
 have g4:=zaz.all (t:=t3p) 1 (fun i=>.h4 db (i:Int) (s,()) (bare (db.take i))) db.length (by
  intro i hi
  refine zaz.of ?_
  have hb:bare (db.take (i+1))=bare (db.take i)++[zAf (List.getD db i (zl zk))]:=by
   unfold bare
   rw [List.take_succ_eq_append_getElem hi,List.map_append,List.getD_eq_getElem?_getD,List.getElem?_eq_getElem hi]
   rfl
  rw [hb]
  simp only [t3p,zz1,zvH,Tr.val,zw,Prod.eta,zV hi,zK hi,Int.toNat_natCast,if_true]
  rw [if_pos (by rw [zgY]; simp; omega),zH i (by unfold zI; omega)])
 rw [List.take_length] at g4
 obtain ⟨e,q1,q2⟩:=zus hwf
 have qc:zlm db=true:=by unfold zlm; rw [q1]; rfl
 have qv:zoV db=e:=by unfold zoV; rw [q1]; rfl
 by_cases he:e=0
 ·have hB:=q2.1 he
  have hbb:=zHR hB
  have b1:=(zmP hsh).2 hB
  have b2:=(zmP hshb).2 hbb
  obtain ⟨p,r,h1,_,h3,h4⟩:=zOQ hsh d2 s2
  have h1b:zsb (bare db) s=some (p,r,()):=by
   rw [zEV (by rw [zhS hsh,zhS hshb]) (by rw [b1,b2]),h1]
  have hp:pOf db s=(p,r):=by unfold pOf; rw [h1]; rfl
  have hpc:zyw db s=true:=by unfold zyw; rw [h1]; rfl
  have hp2:pOf (bare db) s=(p,r):=by unfold pOf; rw [h1b]; rfl
  have hpc2:zyw (bare db) s=true:=by unfold zyw; rw [h1b]; rfl
  have hsame:zml p p=some (true,()):=by
   by_cases hr:r=0
   ·obtain ⟨_,_,y,z,_,_,_,_,_,hz,hA,rfl⟩:=h4 hr
    refine zlk hA.few (Nat.zero_le _) (Nat.zero_le _) ?_ hA.ints
    show cpC 16 z.2.2.2.2.2.2.2.2.2.2.1=true
    rw [hz]; exact s2.cp
   ·rw [h3 hr]
    exact zlk (Nat.zero_le _) (Nat.zero_le _) (Nat.zero_le _) (by rfl) (Nat.zero_le _)
  have hsmc:zlM p p=true:=by unfold zlM; rw [hsame]; rfl
  have hsmv:zoC p p=true:=by unfold zoC; rw [hsame]; rfl
  have v4:(t3p (.h4 db (db.length:Int) (s,()) (bare db))).val=some (.inr (.bool true,[])):=by
   simp only [t3p,zz1,zvH,Tr.val,zw,Prod.eta,zP,qc,qv,he,hp,hpc,hp2,hpc2,hsmc,hsmv,zwB,zwJ]
   simp
  exact zO hi (g4.ends (zaI.of v4)) (by omega) rfl
 ·have v4:(t3p (.h4 db (db.length:Int) (s,()) (bare db))).val=some (.inr (.bool true,[])):=by
   simp only [t3p,zz1,zvH,Tr.val,zP,qc,qv,zwJ]
   simp [he]
  exact zO hi (g4.ends (zaI.of v4)) (by omega) rfl
open Go Go.Proofs Go.RowKit Go.ChangeShapes Go.WideShapes Go.ChangeAt

section
variable {w:World} {U:Nat→Prop} {ρ:Nat→Option Value}
def zDa (w:World) (U:Nat→Prop) (ρ:Nat→Option Value) (l:List AV):Prop:=∀ (j:Nat) (c:AV),l[j]?=some c→∃ v,Rv w U ρ c v
theorem zv5 {n:Int} {v:Value} (h:Rv w U ρ (.int .i64 n) v):-9223372036854775808≤n∧n≤9223372036854775807:=by
 cases h with
 | int _ _ h=>simpa [zbN,IntKind.min,IntKind.max,IntKind.signed,IntKind.bits] using h
theorem zoB {e:Sh} {l:List (Sem e)} {v:Value} (h:Rv w U ρ (.sl e l) v):∀ x∈l,zDa w U ρ (zC e x):=by
 intro x hx
 cases h with
 | sl0=>simp at hx
 | sl _ _ _ _ _ vals hc hm hb hU hcell hr=>
  obtain ⟨i,hi,rfl⟩:=List.getElem_of_mem hx
  exact fun j c h=>⟨_,hr i hi j c h⟩
theorem zN4 {v:Sem zf} (h:zDa w U ρ (zC zf v)):RgV v:=by
 obtain ⟨_,h⟩:=h 1 _ rfl
 exact zv5 h
mutual
theorem zGm:∀ (e:ze),zDa w U ρ (zC .expr e)→RgE e
 | .mk op v s l,h=>by
  rw [RgE]
  obtain ⟨_,h2⟩:=h 2 _ rfl
  obtain ⟨_,h5⟩:=h 5 _ rfl
  exact ⟨zv5 h2,zAR l fun x hx=>zoB h5 x hx⟩
theorem zAR:∀ (l:List ze),(∀ x∈l,zDa w U ρ (zC .expr x))→zuw l
 | [],_=>by rw [zuw]; trivial
 | x::r,h=>by rw [zuw]; exact ⟨zGm x (h x (by simp)),zAR r fun y hy=>h y (by simp [hy])⟩
end
theorem zMo {x:Sem zk} (h:zDa w U ρ (zC zk x)):RgR x where
 chk:=zGm _ fun j c hc=>match j,hc with
  | 0,hc=>h 5 c hc
  | 1,hc=>h 6 c hc
  | 2,hc=>h 7 c hc
  | 3,hc=>h 8 c hc
  | 4,hc=>h 9 c hc
  | 5,hc=>h 10 c hc
  | j+6,hc=>by simp [zC] at hc
 vals:=by
  obtain ⟨_,h⟩:=h 11 _ rfl
  intro r hr v hv
  obtain ⟨_,h⟩:=zoB h r hr 0 _ rfl
  exact zN4 (zoB h v hv)
end

theorem zyr (c g:List (Sem zk)→Sem zu→Bool) (db:List (Sem zk)) (s:Sem zu) (hc:∀ s,c db s=true) (hg:∀ s,g db s=true):
  ((zG [.sl zk,zu] [.bool] (fun x=>c x.1 x.2.1) fun x=>(g x.1 x.2.1,())) [.sl zk db,zx zu s] (fun _=>.dead) 0).val=some { val:=.bool true }:=by
 have e:((zG [.sl zk,zu] [.bool] (fun x=>c x.1 x.2.1) fun x=>(g x.1 x.2.1,())) [.sl zk db,zx zu s] (fun _=>.dead) 0).val
   = (Tr.chk (c db (s.1,s.2.1,s.2.2.1,s.2.2.2.1,s.2.2.2.2.1,s.2.2.2.2.2.1,s.2.2.2.2.2.2.1,s.2.2.2.2.2.2.2.1,zz s.2.2.2.2.2.2.2.2.1,s.2.2.2.2.2.2.2.2.2.1,s.2.2.2.2.2.2.2.2.2.2.1,zz s.2.2.2.2.2.2.2.2.2.2.2.1,s.2.2.2.2.2.2.2.2.2.2.2.2)) (Tr.ok ({ val:=.bool (g db (s.1,s.2.1,s.2.2.1,s.2.2.2.1,s.2.2.2.2.1,s.2.2.2.2.2.1,s.2.2.2.2.2.2.1,s.2.2.2.2.2.2.2.1,zz s.2.2.2.2.2.2.2.2.1,s.2.2.2.2.2.2.2.2.2.1,s.2.2.2.2.2.2.2.2.2.2.1,zz s.2.2.2.2.2.2.2.2.2.2.2.1,s.2.2.2.2.2.2.2.2.2.2.2.2)) }:Eff))).val:=by kernel_rfl
 rw [e,hc,hg]
 rfl

theorem zJC (db:List (Sem zk)) (h:∀ x∈db,RgR x):(∀ s,zvC db s=true)∧∀ s,zz9 db s=true:=
 ⟨fun s=>by unfold zvC; rw [zxC h]; rfl,fun s=>by unfold zz9; rw [zxC h]; rfl⟩
theorem zGH {W:World} {db:List (Sem zk)} {s:Sem zu} {v:Value} (h:Rv W U0 zfB (.sl zk db) v):(F3p [.sl zk db,zx zu s] (fun _=>.dead) 0).val=some { val:=.bool true }:=by
 obtain ⟨h1,h2⟩:=zJC db fun x hx=>zMo (zoB h x hx)
 exact zyr zvC zz9 db s h1 h2
end Cad
