/- Functions: from a run to a contract. A function's contract, lifted to whatever calls it. -/
import Derived.Test.YtfgnbipebgibeaaGreatDoorG04
namespace Cad
open Go

def Tr.Sat {α:Type} (Φ:α→Prop):Tr α→Prop
 | .err=>False
 | .chk c t=>c=true∧t.Sat Φ
 | .br c t f=>(c=true→t.Sat Φ)∧(c=false→f.Sat Φ)
 | .ok a=>Φ a

theorem Tr.sat_val {α:Type} {Φ:α→Prop}:∀ {t:Tr α},t.Sat Φ→∃ a,t.val=some a∧Φ a
 | .err,h=>h.elim
 | .chk c t,⟨hc,h⟩=>by subst hc; simpa [Tr.val] using sat_val h
 | .br c t f,⟨h1,h2⟩=>by
  cases c
  ·simpa [Tr.val] using sat_val (h2 rfl)
  ·simpa [Tr.val] using sat_val (h1 rfl)
 | .ok a,h=>⟨a,rfl,h⟩

theorem Tr.sat_bind {α β:Type} {Φ:β→Prop} {k:α→Tr β}:∀ {t:Tr α},(t.bind k).Sat Φ→t.Sat fun a=>(k a).Sat Φ
 | .err,h=>h
 | .chk _ _,⟨hc,h⟩=>⟨hc,sat_bind h⟩
 | .br _ _ _,⟨h1,h2⟩=>⟨fun hc=>sat_bind (h1 hc),fun hc=>sat_bind (h2 hc)⟩
 | .ok _,h=>h

def Nd (E:bS) (C:dl) (Q:AV→List AO→Prop) (e:Ending) (w':World):Prop:=
 ∃ v r h' U' ρ',e=.returned v∧Q r h'∧Rv w' U' ρ' r v∧iL C w' U' ρ' (fun j=>h'.getD j .dead)∧(∀ id,h'.length≤id→ρ' id=none)∧(∀ id v,C.ρ0 id=some v→ρ' id=some v)∧Wd E.gl C w' U'

def Reach (E:bS) (C:dl) (fn:FuncId) (todo:List Item) (st:St) (Q:AV→List AO→Prop):Prop:=
 ∀ (b:Frame) (cs:List Frame) (a:Act) (w:World) (U:Nat→Prop) (ρ:Nat→Option Value),b.fn=fn→b.kind=.normal→Cn C st a w U ρ→Wd E.gl C w U→
  ∃ e w' fr,Nd E C Q e w'∧Comes E.P (lone (b.at a todo) cs w) (lone fr cs w') e∧fr.fn=fn∧fr.leaving E.P w' e

def iZ (E:bS) (C:dl) (fn:FuncId) (Q:AV→List AO→Prop):zx→Prop
 | .head _ k st=>Reach E C fn k st Q
 | .ret v h=>Q v h
 | .fork c k1 k2 st=>(c=true→Reach E C fn k1 st Q)∧Reach E C fn k2 st Q

section
variable {E:bS} {C:dl} {fn:FuncId} {Q:AV→List AO→Prop}

theorem Reach.step {todo todo':List Item} {st:St} (h:Reach E C fn todo' st Q) (hs:∀ (b:Frame) (a:Act) (cs:List Frame) (w:World),step E.P (lone (b.at a todo) cs w)=.next (lone (b.at a todo') cs w)):Reach E C fn todo st Q:=by
 intro b cs a w U ρ h1 h2 hc hW
 obtain ⟨e,w',fr,hp,hcm,hf,hl⟩:=h b cs a w U ρ h1 h2 hc hW
 exact ⟨e,w',fr,hp,mZ (.one (hs b a cs w)) hcm,hf,hl⟩

def E2 (tmps:Array Value):ResultVar→Go.Sem Value
 | .tmp t=>pure (tmps.getD t undef)
 | .cell x t=>do loadVar t (← asAddr (tmps.getD x undef))

theorem Jt (f:Func) (tmps:Array Value):results f tmps=(do
  let vs ← f.results.mapM (E2 tmps)
  pure (if h:vs.size=1 then vs[0] else .tuple vs)):=by
 unfold results
 congr 2

theorem AL {a:Act} {w:World} {U:Nat→Prop} {ρ:Nat→Option Value} {st:St} (hc:Cn C st a w U ρ):∀ (rs:List ResultVar) (vs:List AV),tw E st rs=some vs→
  ∃ xs:List Value,(rs.mapM (E2 a.tmps)).run E.P w=.ok xs w∧dh w U ρ vs xs
 | [],vs,h=>by
  simp [tw] at h; subst h
  exact ⟨[],by simp,rfl,by simp⟩
 | r :: rs,vs,h=>by
  simp only [tw] at h
  split at h
  ·rename_i v vs' hv hvs
   cases h
   obtain ⟨xs,hrun,hrv⟩:=AL hc rs vs' hvs
   have hslot:∀ t,Rv w U ρ (st.tmps.getD t .any) (a.tmps.getD t undef):=by
    intro t
    by_cases ht:t < st.tmps.length
    ·have ht':t < a.tmps.toList.length:=by rw [← hc.tm.len]; exact ht
     refine hc.tm.rv t _ _ (by rw [aP,zP ht]; rfl) ?_
     rw [kT]
     have:t < a.tmps.size:=by simpa using ht'
     simp [jO this]
    ·rw [aP,dO (by omega)]
     exact .any _
   have one:∃ x,(E2 a.tmps r).run E.P w=.ok x w∧Rv w U ρ v x:=by
    cases r with
    | tmp t=>
     simp only [E3,bz] at hv
     subst hv
     exact ⟨_,rfl,hslot t⟩
    | cell x t=>
     simp only [E3] at hv
     have hs:=hslot x
     split at hv
     ·rename_i id off hp
      rw [hp] at hs
      generalize hvx:a.tmps.getD x undef=vx at hs
      split at hv
      ·rename_i cs hcs
       have ho:=hc.hp.ob id
       rw [hcs] at ho
       have:=CG (P:=E.P) (w:=w) (U:=U) (ρ:=ρ) (hp:=st.hp) (t:=t) (av:=.ptr id off) (v:=vx) (f:={ val:=v }) (by simp [D6,hcs,hv]) hs (fun i hi=>hc.hp.ob i)
       obtain ⟨r',x',e1,hrun',hr'⟩:=this
       cases e1
       cases hs with
       | ptr _ _ b hb=>
       refine ⟨x',?_,hr'⟩
       simp only [E2,hvx,asAddr,cC,mj,kE]
       simpa [Instr.loadAt,Instr.sureAddr] using hrun'
      ·cases hv
     ·cases hv
   obtain ⟨x,hx,hrx⟩:=one
   refine ⟨x::xs,?_,⟨by simp [hrv.len],fun j c y hc' hy=>?_⟩⟩
   ·simp only [List.mapM_cons,cC,hx,kE,hrun,mj]
   ·cases j with
    | zero=>simp at hc' hy; subst hc'; subst hy; exact hrx
    | succ j=>exact hrv.rv j c y (by simpa using hc') (by simpa using hy)
  ·cases h

theorem Yp {n0:Nat} {f:Func} (_:E.P.funcs[fn]?=some f) (hC:∀ id,n0≤id→C.ρ0 id=none) {rs:List ResultVar} (hrs:f.results.toList=rs) {st:St} (h:(tv E n0 rs st).Sat (iZ E C fn Q))
  {a:Act} {w:World} {U:Nat→Prop} {ρ:Nat→Option Value} (hc:Cn C st a w U ρ) (hW:Wd E.gl C w U):∃ v,(results f a.tmps).run E.P w=.ok v w∧Nd E C Q (.returned v) w:=by
 unfold tv at h
 split at h
 ·rename_i vs hvs
  obtain ⟨xs,hrun,hrv⟩:=AL hc rs vs hvs
  simp only at h
  have hres:(results f a.tmps).run E.P w=.ok (if h:xs.toArray.size=1 then xs.toArray[0] else .tuple xs.toArray) w:=by
   rw [Jt,cC,Array.mapM_eq_mapM_toList,Sem.run_map,hrs,hrun]
   rfl
  have hval:Rv w U ρ (Es vs) (if h:xs.toArray.size=1 then xs.toArray[0] else .tuple xs.toArray):=by
   clear h hvs hrun hres
   have hl:=hrv.len
   match vs,xs,hl,hrv with
   | [c],[x],_,hrv=>simpa [Es] using hrv.rv 0 c x rfl rfl
   | [],[],_,_=>simpa [Es] using Rv.tup (w:=w) (U:=U) (ρ:=ρ) [] [] rfl (by simp)
   | c1::c2::cs,x1::x2::xs,hl,hrv=>
    rw [dif_neg (by simp)]
    exact .tup _ _ hl hrv.rv
  refine ⟨_,hres,?_⟩
  split at h
  ·rename_i hcl
   obtain ⟨e1,e2,e3,e4⟩:=K8 hC hcl hc.hp hc.r0
   exact ⟨_,_,_,U,_,rfl,h,hval.ren e1,e2,by simpa using e3,e4,hW⟩
  ·exact h.elim
 ·exact h.elim

theorem xV {a:Act} {w:World} {U:Nat→Prop} {ρ:Nat→Option Value} {st:St} {c:Operand} {t:Bool} (hc:Cn C st a w U ρ) (hx:a.eval c=.bool t):Cn C (ww st c t) a w U ρ:=by
 unfold ww
 split
 ·rename_i i
  refine { hc with tm:=⟨by simpa using hc.tm.len,fun j d v hd hv=>?_⟩ }
  rw [nC] at hd
  split at hd
  ·rename_i hij
   subst hij
   split at hd
   ·cases hd
    have:a.eval (.tmp i)=v:=by
     simp only [Act.eval]
     rw [kT]
     have:=cn.1 hv
     obtain ⟨h1,h2⟩:=this
     have h1':i < a.tmps.size:=by simpa using h1
     simp [jO h1',← h2]
    rw [this] at hx
    subst hx
    exact .kb t
   ·cases hd
  ·exact hc.tm.rv j d v hd hv
 ·exact hc

theorem LO {w:World} {U:Nat→Prop} {ρ:Nat→Option Value} {hp:Nat→AO} {av:AV} {v:Value} {c:Bool} (h:DS hp av=some c) (hr:Rv w U ρ av v) (hob:∀ id,bE w U ρ id (hp id)):∃ a n cp,v=.slice a n cp∧(a=none→c=true):=by
 have fin:∀ {e:Sh} {l:List (Sem e)} {v:Value},Rv w U ρ (.sl e l) v→∃ a n cp,v=.slice a n cp∧(a=none→l.isEmpty=true):=by
  intro e l v hr
  cases hr with
  | sl0 _ a c=>exact ⟨a,0,c,rfl,fun _=>rfl⟩
  | sl _ _ b o c _ _ _ _ _ _ _=>exact ⟨some ⟨b,o,none⟩,_,c,rfl,fun h=>by cases h⟩
 cases av <;> simp [DS] at h
 case nils=>
  subst h
  cases hr with
  | nils a=>exact ⟨a,0,0,rfl,fun _=>rfl⟩
 case sl e l=>
  subst h
  obtain ⟨a,n,cp,h1,h2⟩:=fin hr
  exact ⟨a,n,cp,h1,fun h=>by simpa using h2 h⟩
 case vec id=>
  cases hr with
  | vec _ _ hv _=>
  have ho:=hob id
  split at h
  ·rename_i e l hid
   simp only [bz] at h
   subst h
   rw [hid] at ho
   obtain ⟨a,c,h1,_,h3⟩:=ho
   rw [hv] at h1; cases h1
   refine ⟨a,_,c,rfl,fun ha=>?_⟩
   rcases h3 with ⟨rfl,_⟩ | ⟨b,T,arr,hb,_⟩
   ·rfl
   ·rw [ha] at hb; cases hb
  ·rename_i e l hid
   simp only [bz] at h
   subst h
   rw [hid] at ho
   obtain ⟨v',h1,h2⟩:=ho
   rw [hv] at h1; cases h1
   exact fin h2
  ·cases h

theorem Su {P:Program} {w:World} {t el:TypeId} (hu:P.underlying t=some (.slice el)) (px qx:Operand) (p:Option Addr) (n cp:Nat):
  (do eqGuard .eql t px qx (.slice p n cp) (.slice none 0 0); binOp .eql t (.slice p n cp) (.slice none 0 0):Go.Sem Value).run P w=.ok (.bool p.isNone) w:=by
 have g:(eqGuard .eql t px qx (.slice p n cp) (.slice none 0 0)).run P w=.ok () w:=by simp [eqGuard]
 have e:(Op.equal t (.slice p n cp) (.slice none 0 0)).run P w=.ok p.isNone w:=by
  show (Op.equalIn (9999+1) t (.slice p n cp) (.slice none 0 0)).run P w=.ok p.isNone w
  unfold Op.equalIn
  rw [cC,bn hu]
  cases p <;> rfl
 have hb:(binOp .eql t (.slice p n cp) (.slice none 0 0):Go.Sem Value)=(do pure (.bool (← Op.equal t (.slice p n cp) (.slice none 0 0)))):=rfl
 rw [cC,g,kE,hb,cC,e,kE]
 rfl

theorem IZ {st:St} {ca cb thn els:Code} {s x d:Nat} {t:TypeId} {c:Bool} {k:List Item} (hn:En ca cb=some (s,x,d,t,thn,els)) (he:DS st.hp (st.tmps.getD s .any)=some c) (ht:IN E.P t=true) (hd:d < st.tmps.length) (hx:x < st.tmps.length)
  (h1:c=true→Reach E C fn (.code thn::k) { st with tmps:=(st.tmps.set x (st.tmps.getD s .any)).set d .any } Q) (h2:Reach E C fn (.code els::k) { st with tmps:=(st.tmps.set x (st.tmps.getD s .any)).set d .any } Q):Reach E C fn (.code (.seq ca cb)::k) st Q:=by
 unfold En at hn
 split at hn
 ·rename_i id ops d' a0 b0
  split at hn
  ·rename_i o1 o2 hops
   split at hn
   ·rename_i x' s' d0 t0 x1 ty e1 e2 e3 e4 e5 e6
    split at hn
    ·rename_i hcond
     obtain ⟨rfl,rfl,hxd⟩:=hcond
     cases hn
     intro b cs a w U ρ hb1 hb2 hc hW
     have hsl:∃ el,E.P.underlying t=some (.slice el):=by
      unfold IN at ht
      split at ht
      ·exact ⟨_,‹_›⟩
      ·cases ht
     obtain ⟨el,hu⟩:=hsl
     have hev:Rv w U ρ (st.tmps.getD s .any) (a.eval (.tmp s)):=by
      have:=D8 (E:=E) (known:=[]) hc.tm (by simp) hW.gl (.tmp s)
      simpa [tV] using this
     obtain ⟨p,n,cp,hv,hnone⟩:=LO he hev (fun id=>hc.hp.ob id)
     have hlen:st.tmps.length=a.tmps.size:=by have:=hc.tm.len; simpa using this
     have hops':ops = #[o1,o2]:=by apply ig; simpa using hops
     generalize hA1:a.put (some x) (a.eval (.tmp s))=a1
     have hx1:a1.eval (.tmp x)=.slice p n cp:=by
      rw [← hA1,hv]
      simp only [Act.eval,Act.put]
      rw [kT]
      simp [hlen▸hx]
     have hreg:(Code.region id ops false).wp E.P (fun e a' w'=>e=.normal∧w'=w∧a'=a1.put (some d) (.bool p.isNone)) a w:=by
      refine wp_region ?_
      rw [hops']
      show wpOps E.P #[o1,o2] _ [0,1] a w
      simp only [wpOps,FX,List.getElem?_cons_zero,Region.wanted,e3,if_true]
      refine .inl (eE (v:=a.eval (.tmp s)) (w':=w) (by simp [execOp,e2]) ?_)
      rw [e1,hA1]
      simp only [List.getElem?_cons_succ,List.getElem?_cons_zero,e6,if_true]
      refine .inl (eE (v:=.bool p.isNone) (w':=w) ?_ ?_)
      ·have hx1':a1.tmps.getD x undef=.slice p n cp:=hx1
       have hnr:=Su (w:=w) hu (.tmp x) (.const (.slice none 0 0)) p n cp
       have h1e:a1.eval (.tmp x)=.slice p n cp:=hx1
       have h2e:a1.eval (.const (.slice none 0 0))=.slice none 0 0:=rfl
       unfold execOp
       rw [e5]
       simp only [h1e,h2e]
       simp only [cC] at hnr ⊢
       simp [hnr]
      ·rw [e4]; exact ⟨trivial,rfl,rfl⟩
     obtain ⟨e,a',w',⟨rfl,rfl,rfl⟩,harr⟩:=hreg b (.code (.cond (.tmp d) thn els)::k) cs
     have hcn:Cn C { st with tmps:=(st.tmps.set x (st.tmps.getD s .any)).set d .any } (a1.put (some d) (.bool p.isNone)) w' U ρ:=by
      refine ⟨?_,hc.hp,hc.new,?_,hc.r0⟩
      ·have r1:=wG (d:=some x) hc.tm hev
       rw [hA1] at r1
       exact wG (d:=some d) r1 (.any (.bool p.isNone))
      ·rw [← hA1]; exact hc.df
     have hd1:(a1.put (some d) (.bool p.isNone)).eval (.tmp d)=.bool p.isNone:=by
      have hl1:d < a1.tmps.size:=by rw [← hA1]; simp [Act.put]; omega
      simp only [Act.eval,Act.put]
      rw [kT]
      simp [hl1]
     cases hp:p with
     | none=>
      rw [hp] at hd1 harr hcn
      obtain ⟨e,w'',fr,q1,q2,q3⟩:=h1 (hnone hp) b cs _ w' U ρ hb1 hb2 hcn hW
      exact ⟨e,w'',fr,q1,mZ (.one step_seq) (mZ harr (mZ (.one (step_cond hd1)) q2)),q3⟩
     | some pa=>
      rw [hp] at hd1 harr hcn
      obtain ⟨e,w'',fr,q1,q2,q3⟩:=h2 b cs _ w' U ρ hb1 hb2 hcn hW
      exact ⟨e,w'',fr,q1,mZ (.one step_seq) (mZ harr (mZ (.one (step_cond hd1)) q2)),q3⟩
    ·cases hn
   ·cases hn
  ·cases hn
 ·cases hn

theorem Dl (hE:zy E) {n0:Nat} {f:Func} (hf:E.P.funcs[fn]?=some f) (hC:∀ id,n0≤id→C.ρ0 id=none) {rs:List ResultVar} (hrs:f.results.toList=rs) {keep:Nat→aJ}:
  ∀ (n:Nat) (todo:List Item) (st:St),(run E n0 keep rs n todo st).Sat (iZ E C fn Q)→Reach E C fn todo st Q
 | 0,_,_,h=>h.elim
 | n + 1,todo,st,h=>by
  have ih:=Dl hE hf hC hrs (keep:=keep) n
  have head:∀ (c:Code) (k:List Item),(jZ n0 (keep (dV c)) (dV c) (.code c::.inLoop c::k) st).Sat (iZ E C fn Q)→Reach E C fn (.code c::.inLoop c::k) st Q:=by
   intro c k h
   unfold jZ at h
   split at h
   ·rename_i st' hn
    intro b cs a w U ρ h1 h2 hc hW
    obtain ⟨ρ',hc'⟩:=Ky hC hn hc
    exact h b cs a w U ρ' h1 h2 hc' hW
   ·exact h.elim
  have cut:∀ (kp:aJ) (key:Nat) (todo:List Item) (st:St),(jZ n0 kp key todo st).Sat (iZ E C fn Q)→Reach E C fn todo st Q:=by
   intro kp key todo st h
   unfold jZ at h
   split at h
   ·rename_i st' hn
    intro b cs a w U ρ h1 h2 hc hW
    obtain ⟨ρ',hc'⟩:=Ky hC hn hc
    exact h b cs a w U ρ' h1 h2 hc' hW
   ·exact h.elim
  have ending:(tv E n0 rs ((keep 1000000).sett.foldl Do ((keep 1000000).prom.foldl sK st))).Sat (iZ E C fn Q)→∀ (todo:List Item),(∀ (b:Frame) (a:Act) (cs:List Frame) (w:World),step E.P (lone (b.at a todo) cs w)=.next (lone { b.at a todo with mode:=.returning } cs w))→Reach E C fn todo st Q:=by
   intro h todo hs b cs a w U ρ h1 h2 hc hW
   obtain ⟨ρ',hc'⟩:=Ab (keep 1000000).prom hc
   obtain ⟨U',hc2,hW2⟩:=HS (gl:=E.gl) (keep 1000000).sett hc' hW
   obtain ⟨v,hr,hp⟩:=Yp hf hC hrs h hc2 hW2
   refine ⟨.returned v,w,{ b.at a todo with mode:=.returning },hp,.one (hs b a cs w),h1,rfl,hc.df,h2,f,?_,hr⟩
   show E.P.funcs[b.fn]?=some f
   rw [h1]; exact hf
  unfold run at h
  split at h
  ·exact ending h [] (fun b a cs w=>step_end)
  ·exact (ih _ _ h).step (fun b a cs w=>step_inBlock)
  ·split at h
   ·exact (ih _ _ h).step (fun b a cs w=>step_inLoop)
   ·exact (head _ _ h).step (fun b a cs w=>step_inLoop)
  ·rename_i c k
   split at h
   ·exact (ih _ _ h).step (fun b a cs w=>step_skip)
   ·exact (ih _ _ h).step (fun b a cs w=>step_label)
   ·split at h
    ·rename_i hn
     split at h
     ·rename_i c he
      split at h
      ·rename_i hcond
       simp only [aV,aN] at hcond
       exact IZ hn he hcond.1 hcond.2.1 hcond.2.2 h.1 h.2
      ·exact h.elim
     ·exact h.elim
    ·exact (ih _ _ h).step (fun b a cs w=>step_seq)
   ·rename_i co x y
    intro b cs a w U ρ h1 h2 hc hW
    have hev:=D8 (E:=E) (known:=[]) hc.tm (by simp) hW.gl co
    generalize hx:a.eval co=v at hev
    split at h
    ·rename_i hco
     rw [hco] at hev; cases hev
     obtain ⟨e,w',fr,q1,q2,q3⟩:=ih _ _ h b cs a w U ρ h1 h2 hc hW
     exact ⟨e,w',fr,q1,mZ (.one (step_cond hx)) q2,q3⟩
    ·rename_i hco
     rw [hco] at hev; cases hev
     obtain ⟨e,w',fr,q1,q2,q3⟩:=ih _ _ h b cs a w U ρ h1 h2 hc hW
     exact ⟨e,w',fr,q1,mZ (.one (step_cond hx)) q2,q3⟩
    ·rename_i t hco
     rw [hco] at hev; cases hev
     cases t
     ·obtain ⟨e,w',fr,q1,q2,q3⟩:=ih _ _ (h.2 rfl) b cs a w U ρ h1 h2 (xV hc hx) hW
      exact ⟨e,w',fr,q1,mZ (.one (step_cond hx)) q2,q3⟩
     ·obtain ⟨e,w',fr,q1,q2,q3⟩:=ih _ _ (h.1 rfl) b cs a w U ρ h1 h2 (xV hc hx) hW
      exact ⟨e,w',fr,q1,mZ (.one (step_cond hx)) q2,q3⟩
    ·exact h.elim
   ·exact (ih _ _ h).step (fun b a cs w=>step_block)
   ·split at h
    ·exact (ih _ _ h).step (fun b a cs w=>step_loop)
    ·exact (head _ _ h).step (fun b a cs w=>step_loop)
   ·rename_i id
    split at h
    ·rename_i k' hk
     exact (ih _ _ h).step (fun b a cs w=>step_exit hk)
    ·exact h.elim
   ·exact ending h _ (fun b a cs w=>step_ret)
   ·rename_i id ops draw
    intro b cs a w U ρ h1 h2 hc hW
    obtain ⟨st',hv,hs⟩:=Tr.sat_val (Tr.sat_bind h)
    obtain ⟨e,a',w',⟨rfl,U',ρ',hc',hW'⟩,harr⟩:=BB (id:=id) hE hv hc hW b k cs
    have hR:Reach E C fn k st' Q:=by
     split at hs
     ·exact cut _ _ _ _ hs
     ·exact ih _ _ hs
    obtain ⟨e,w'',fr,q1,q2,q3⟩:=hR b cs a' w' U' ρ' h1 h2 hc' hW'
    exact ⟨e,w'',fr,q1,mZ harr q2,q3⟩
   ·exact h.elim
  ·exact h.elim

end

@[reducible] def zC:List (Option Sh)→Type
 | []=>Unit
 | some s::ks=>Sem s×zC ks
 | none::ks=>AV×zC ks

def kF:(ks:List (Option Sh))→zC ks→List AV
 | [],_=>[]
 | some s::ks,x=>zF s x.1::kF ks x.2
 | none::ks,x=>x.1::kF ks x.2

abbrev ie (ks:List (Option Sh)):=zC ks→List AO→Tr (AV×List AO)

def kL (hp:Nat→AO) (f:Nat→Nat):(ks:List (Option Sh))→List AV→Option (zC ks)
 | [],[]=>some ()
 | some s::ks,a::as=>match vu hp s a,kL hp f ks as with
  | some x,some r=>some (x,r)
  | _,_=>none
 | none::ks,a::as=>match kL hp f ks as with
  | some r=>some (a.ren f,r)
  | none=>none
 | _,_=>none

def bX (hp:Nat→AO):List (Option Sh)→List AV→Option (List (Bool×AV))
 | [],[]=>some []
 | some s::ks,a::as=>match vu hp s a,bX hp ks as with
  | some x,some r=>some ((false,zF s x)::r)
  | _,_=>none
 | none::ks,a::as=>match bX hp ks as with
  | some r=>some ((true,a)::r)
  | none=>none
 | _,_=>none

def eO:List (Option Sh)→List AV→List Nat
 | some _::ks,a::as=>di a++eO ks as
 | none::ks,_::as=>eO ks as
 | _,_=>[]

def xh:AV→Bool
 | .bool _ | .kb _ | .int _ _ | .str _ | .ifc _=>true
 | _=>false

def tD:AV→Bool
 | .tup vs=>vs.all xh
 | v=>xh v

def fu (ps:List (Bool×AV)):List AV:=(ps.filter (·.1)).map (·.2)

def mA (π:List Nat) (n:Nat) (j:Nat):Nat:=if j < π.length then π.getD j 0 else n+(j - π.length)

def Kt (hp:Nat→AO) (n:Nat) (π z:List Nat) (r:AV) (h':List AO):Tr fm:=
  if π.length≤h'.length then
    .ok { val:=r.ren (mA π n),wr:=(π.zip h').map (fun p=>(p.1,p.2.ren (mA π n)))++(if tD r&&π.isEmpty&&h'.isEmpty then [] else fK hp z),
          nw:=(h'.drop π.length).map (AO.ren (mA π n)) }
  else .err

def XY:AO→Bool
 | .dead=>false
 | _=>true

def bh (kinds:List (Option Sh)) (G:ie kinds):zT:=fun args hp n=>
 match bX hp kinds args with
 | some ps=>
  let π:=jn hp 400 (AV.idsL (fu ps)) []
  let z:=eO kinds args
  if jx hp 0 (AV.idsL (fu ps)) π&&z.all (fun i=>nq (hp i) && !π.contains i)&&π.all (fun i=>decide (i < n)&&XY (hp i)) then
   match kL hp (fun i=>π.idxOf i) kinds args with
   | some x=>(G x (π.map fun i=>(hp i).ren fun i=>π.idxOf i)).bind fun p=>Kt hp n π z p.1 p.2
   | none=>.err
  else .err
 | none=>.err

def QK (E:bS) (k:FuncId) (args:List AV) (h0:List AO) (Q:AV→List AO→Prop):Prop:=
 ∃ f c,E.P.funcs[k]?=some f∧f.body=some c∧(f.name == "runtime.NumGoroutine")=false∧args.length≤f.ntmps∧
  ∀ C:dl,(∀ id,h0.length≤id→C.ρ0 id=none)→Reach E C k [.code c] (bc f.ntmps args h0) Q

section
variable {E:bS} {w:World} {U:Nat→Prop} {ρ:Nat→Option Value}

theorem xU {U':Nat→Prop} {ρ':Nat→Option Value} {hp:Nat→AO} {s:Sh} {av:AV} {x:Sem s} {v:Value} (h:vu hp s av=some x) (hr:Rv w U ρ av v) (hsub:∀ b,U' b→U b)
  (hob:∀ id∈di av,bE w U ρ id (hp id)∧∀ b,ag ρ id (hp id) b→¬ U' b):Rv w U' ρ' (zF s x) v:=by
 have plain:∀ (c:AV) (v:Value) (j:Nat),(zp s x)[j]?=some c→Rv w U' ρ c v→Rv w U' ρ' c v:=by
  intro c v j hc hr
  have:=hr.ren (ρ':=ρ') (f:=fun i=>i) (fun i hi=>by rw [nL s x j c hc] at hi; simp at hi)
  rwa [nM _ s x j c hc] at this
 obtain ⟨cs,hcs,himp⟩:=vw h
 obtain ⟨hcv,hcv1⟩:=eY hcs hr
 obtain ⟨q1,q2,q3⟩:=j0 (w:=w) (U:=U) (U':=U') (ρ:=ρ) (hp:=hp) hsub s cs x [] (fun j=>(v.cells.toList[j]?).getD undef) himp
  (fun j c hj=>by
   have hlt:j < v.cells.toList.length:=by rw [← hcv.len]; exact (cn.1 hj).1
   exact hcv.rv j c _ hj (by simp [zP hlt]))
  (fun id hid=>hob id (by simpa [di,hcs] using hid))
 have hsz:v.cells.toList.length=s.size:=by rw [← hcv.len]; simpa using q1
 have hagg:s.isAgg=av.isAgg:=by
  unfold vu at h
  split at h
  ·rename_i he; simpa using he
  ·cases h
 unfold zF
 cases ha:s.isAgg with
 | true=>
  rw [ha] at hagg
  have hvagg:v=.agg v.cells.toList.toArray:=by
   cases hr with
   | agg cs' vs hl h1 hr=>simp [Value.cells]
   | _=>simp [AV.isAgg] at hagg
  rw [hvagg]
  refine .agg _ _ (by rw [ac,hsz]) hcv1 (fun j c y hc hy=>?_)
  have:=plain c _ j hc (q3 j c hc)
  rw [hy] at this
  exact this
 | false=>
  have hone:∃ c,zp s x=[c]:=by
   cases s <;> simp [Sh.isAgg] at ha <;> simp [zp]
  obtain ⟨c,hc⟩:=hone
  have hs1:s.size=1:=by rw [← ac s x,hc]; rfl
  rw [hc]
  have h0:=plain c _ 0 (by rw [hc]; rfl) (q3 0 c (by rw [hc]; rfl))
  rw [ha] at hagg
  have hv:v.cells.toList[0]?=some v:=by
   cases v with
   | agg arr=>
    cases hr with
    | agg=>simp [AV.isAgg] at hagg
    | any=>simp [cellsOf] at hcs
    | vec _ _ _ h1=>simp [Value.oneCell'] at h1
    | mp _ _ _ h1=>simp [Value.oneCell'] at h1
   | _=>rfl
  rw [hv] at h0
  exact h0

theorem iS {U':Nat→Prop} {ρ':Nat→Option Value} {hp:Nat→AO} {f:Nat→Nat} (hsub:∀ b,U' b→U b):∀ (kinds:List (Option Sh)) (args:List AV) (vals:List Value) (ps:List (Bool×AV)),bX hp kinds args=some ps→
  dh w U ρ args vals→(∀ id∈eO kinds args,bE w U ρ id (hp id)∧∀ b,ag ρ id (hp id) b→¬ U' b)→(∀ id∈AV.idsL (fu ps),ρ' (f id)=ρ id)→
  dh w U' ρ' (ps.map fun p=>if p.1 then p.2.ren f else p.2) vals∧∀ id∈AV.idsL (fu ps),id∈AV.idsL args
 | [],[],vals,ps,h,hr,_,_=>by
  simp [bX] at h; subst h
  exact ⟨by simpa using ⟨hr.len,fun j c v hc=>by simp at hc⟩,by simp [fu,AV.idsL]⟩
 | some s::ks,a::as,[],ps,_,hr,_,_=>by have:=hr.len; simp at this
 | none::ks,a::as,[],ps,_,hr,_,_=>by have:=hr.len; simp at this
 | some s::ks,a::as,v::vals,ps,h,hr,hob,hρ=>by
  simp only [bX] at h
  split at h
  ·rename_i x r hx hrr
   cases h
   have htl:dh w U ρ as vals:=⟨by have:=hr.len; simpa using this,fun j c v hc hv=>hr.rv (j+1) c v hc hv⟩
   obtain ⟨h1,h2⟩:=iS hsub ks as vals r hrr htl (fun id hid=>hob id (by simp [eO,hid])) (fun id hid=>hρ id (by simpa [fu] using hid))
   refine ⟨⟨by simp [h1.len.symm],fun j c y hc hy=>?_⟩,fun id hid=>?_⟩
   ·cases j with
    | zero=>
     simp at hc hy; subst hc; subst hy
     exact xU hx (hr.rv 0 a v rfl rfl) hsub (fun id hid=>hob id (by simp [eO,hid]))
    | succ j=>exact h1.rv j c y (by simpa using hc) (by simpa using hy)
   ·simp only [AV.idsL,bK]
    exact .inr (h2 id (by simpa [fu] using hid))
  ·cases h
 | none::ks,a::as,v::vals,ps,h,hr,hob,hρ=>by
  simp only [bX] at h
  split at h
  ·rename_i r hrr
   cases h
   have htl:dh w U ρ as vals:=⟨by have:=hr.len; simpa using this,fun j c v hc hv=>hr.rv (j+1) c v hc hv⟩
   obtain ⟨h1,h2⟩:=iS hsub ks as vals r hrr htl (fun id hid=>hob id (by simpa [eO] using hid)) (fun id hid=>hρ id (by simp [fu,AV.idsL] at hid ⊢; exact .inr hid))
   refine ⟨⟨by simp [h1.len.symm],fun j c y hc hy=>?_⟩,fun id hid=>?_⟩
   ·cases j with
    | zero=>
     simp at hc hy; subst hc; subst hy
     exact ((hr.rv 0 a v rfl rfl).weak hsub).ren (fun id hid=>hρ id (by simp [fu,AV.idsL]; exact .inl hid))
    | succ j=>exact h1.rv j c y (by simpa using hc) (by simpa using hy)
   ·simp [fu,AV.idsL] at hid ⊢
    rcases hid with hid | hid
    ·exact .inl hid
    ·exact .inr (h2 id (by simpa [fu] using hid))
  ·cases h
 | [],_::_,_,_,h,_,_,_=>by simp [bX] at h
 | some _::_,[],_,_,h,_,_,_=>by simp [bX] at h
 | none::_,[],_,_,h,_,_,_=>by simp [bX] at h

theorem uL {hp:Nat→AO} {f:Nat→Nat}:∀ (kinds:List (Option Sh)) (args:List AV) (ps:List (Bool×AV)) (x:zC kinds),bX hp kinds args=some ps→kL hp f kinds args=some x→
  kF kinds x=ps.map fun p=>if p.1 then p.2.ren f else p.2
 | [],[],ps,x,h,_=>by simp [bX] at h; subst h; rfl
 | some s::ks,a::as,ps,x,h,hx=>by
  simp only [bX] at h
  simp only [kL] at hx
  split at h
  ·rename_i y r hy hr
   cases h
   rw [hy] at hx
   split at hx
   ·rename_i y' r' hy' hr'
    cases hy'
    cases hx
    simp [kF,uL ks as r r' hr hr']
   ·cases hx
  ·cases h
 | none::ks,a::as,ps,x,h,hx=>by
  simp only [bX] at h
  simp only [kL] at hx
  split at h
  ·rename_i r hr
   cases h
   split at hx
   ·rename_i r' hr'
    cases hx
    simp [kF,uL ks as r r' hr hr']
   ·cases hx
  ·cases h
 | [],_::_,_,_,h,_=>by simp [bX] at h
 | some _::_,[],_,_,h,_=>by simp [bX] at h
 | none::_,[],_,_,h,_=>by simp [bX] at h

theorem oe:∀ (kinds:List (Option Sh)) (args:List AV) (id:Nat),id∈eO kinds args→id∈AV.idsL args
 | some _::ks,a::as,id,h=>by
  simp only [eO,bK] at h
  simp only [AV.idsL,bK]
  exact h.imp nZ (oe ks as id)
 | none::ks,_::as,id,h=>by
  simp only [eO] at h
  simp only [AV.idsL,bK]
  exact .inr (oe ks as id h)
 | [],_,_,h=>by simp [eO] at h
 | some _::_,[],_,h=>by simp [eO] at h
 | none::_,[],_,h=>by simp [eO] at h

theorem Jx {w':World} {U':Nat→Prop} {ρ':Nat→Option Value} {r:AV} {v:Value} {f:Nat→Nat} (h:tD r=true) (hr:Rv w U ρ r v):Rv w' U' ρ' (r.ren f) v:=by
 have one:∀ (r:AV) (v:Value),xh r=true→Rv w U ρ r v→Rv w' U' ρ' (r.ren f) v:=by
  intro r v h hr
  cases hr <;> simp [xh] at h <;> simp only [AV.ren]
  ·exact .kb _
  ·exact .bool _
  ·exact .int _ _ ‹_›
  ·exact .str _ ‹_›
  ·exact .ifcN
  ·exact .ifcS _ _
 cases r with
 | tup vs=>
  cases hr with
  | tup _ xs hl hrr=>
  simp only [tD,fE] at h
  simp only [AV.ren,iU]
  refine .tup _ xs (by simpa using hl) (fun j c v hc hv=>?_)
  simp only [dP,cW] at hc
  obtain ⟨c',hc',rfl⟩:=hc
  exact one c' v (h c' (kC hc')) (hrr j c' v hc' hv)
 | _=>exact one _ v (by simpa [tD] using h) hr

theorem qQ {hp:Nat→AO} {S:List Nat} (hcl:∀ id∈S,∀ j∈(hp id).ids,j∈S):∀ (fuel:Nat) (todo seen:List Nat),(∀ i∈todo,i∈S)→(∀ i∈seen,i∈S)→∀ i∈jn hp fuel todo seen,i∈S
 | 0,_,_,_,hs=>hs
 | _+1,[],_,_,hs=>hs
 | n+1,i::r,seen,ht,hs=>by
  simp only [jn]
  split
  ·exact qQ hcl n r seen (fun j hj=>ht j (by simp [hj])) hs
  ·refine qQ hcl n _ _ (fun j hj=>?_) (fun j hj=>?_)
   ·rcases bK.1 hj with hj | hj
    ·exact ht j (by simp [hj])
    ·exact hcl i (ht i (by simp)) j hj
   ·rcases bK.1 hj with hj | hj
    ·exact hs j hj
    ·simp at hj; rw [hj]; exact ht i (by simp)

theorem Pb {id:Nat} {o:AO} (h:XY o=true) (ho:bE w U ρ id o):∃ v,ρ id=some v:=by
 cases o with
 | dead=>simp [XY] at h
 | box cs=>obtain ⟨b,T,vals,h1,_⟩:=ho; exact ⟨_,h1⟩
 | vec e l=>obtain ⟨a,c,h1,_⟩:=ho; exact ⟨_,h1⟩
 | frz e l=>obtain ⟨v,h1,_⟩:=ho; exact ⟨_,h1⟩
 | fmap es=>obtain ⟨r,ents,clock,h1,_⟩:=ho; exact ⟨_,h1⟩
 | vmap u es=>obtain ⟨r,ents,clock,h1,_⟩:=ho; exact ⟨_,h1⟩

theorem xR {C:dl} {k:FuncId} {f:Func} {c:Code} {args:List AV} {vals:List Value} {h0:List AO} {Q:AV→List AO→Prop} (hf:E.P.funcs[k]?=some f) (hb:f.body=some c) (_:args.length≤f.ntmps)
  (hR:Reach E C k [.code c] (bc f.ntmps args h0) Q) (hr:dh w U ρ args vals) (hH:iL C w U ρ (fun j=>h0.getD j .dead)) (hnew:∀ id,h0.length≤id→ρ id=none) (hr0:∀ id v,C.ρ0 id=some v→ρ id=some v)
  (hW:Wd E.gl C w U):Calls E.P k vals.toArray w (Nd E C Q):=by
 intro cs
 let b:Frame:={ (default:Frame) with fn:=k,kind:=.normal }
 have henter:Frame.enter E.P k vals.toArray .normal=b.at { tmps:=vals.toArray++Array.replicate (f.ntmps - vals.toArray.size) undef,defers:=[] } [.code c]:=by
  simp [Frame.enter,Frame.at,hf,hb,b]
 rw [henter]
 refine hR b cs _ w U ρ rfl rfl ⟨?_,hH,hnew,rfl,hr0⟩ hW
 have hl:=hr.len
 simp only [bc,Array.toList_append,Array.toList_replicate,List.size_toArray]
 rw [← hl]
 refine hr.append ⟨by simp,fun j c v hc hv=>?_⟩
 have e1:c=.tup []:=by
  have:=kC hc
  simpa using (List.mem_replicate.1 this).2
 have e2:v=undef:=by
  have:=kC hv
  simpa using (List.mem_replicate.1 this).2
 rw [e1,e2]
 exact .tup [] [] rfl (by simp)

def JP (E:bS) (k:FuncId) (args:List AV) (h0:List AO) (Q:AV→List AO→Prop):Prop:=
 ∀ (C:dl) (w:World) (U:Nat→Prop) (ρ:Nat→Option Value) (vals:List Value),(∀ id,h0.length≤id→C.ρ0 id=none)→dh w U ρ args vals→iL C w U ρ (fun j=>h0.getD j .dead)→(∀ id,h0.length≤id→ρ id=none)→
  (∀ id v,C.ρ0 id=some v→ρ id=some v)→Wd E.gl C w U→Calls E.P k vals.toArray w (Nd E C Q)

theorem QK.calls {k:FuncId} {args:List AV} {h0:List AO} {Q:AV→List AO→Prop} (h:QK E k args h0 Q):JP E k args h0 Q:=by
 intro C w U ρ vals h1 h2 h3 h4 h5 h6
 obtain ⟨f,c,hf,hb,_,hl,hR⟩:=h
 exact xR hf hb hl (hR C h1) h2 h3 h4 h5 h6

theorem ic {P:Program} {gl:Nat→AV} {k:FuncId} {kinds:List (Option Sh)} {G:ie kinds} (hfn:∃ fn,E.P.funcs[k]?=some fn∧(fn.name == "runtime.NumGoroutine")=false∧fn.body.isNone=false)
    (hG:∀ x h0 res,(G x h0).val=some res→JP E k (kF kinds x) h0 (fun r h=>(r,h)=res)) (qp:E.P=P:=by rfl) (qg:E.gl=gl:=by rfl):nl P gl k (bh kinds G):=by
  subst qp qg
  refine ⟨hfn,?_⟩
  intro w U ρ hp n args vals f fp h hr hub hgl hfp hin hcl hn
  unfold bh at h
  split at h
  · rename_i ps hps
    simp only at h
    generalize hπ:jn hp 400 (AV.idsL (fu ps)) []=π at h
    generalize hz:eO kinds args=z at h
    split at h
    · rename_i hcond
      simp only [aV,fE,aN,Bool.not_eq_true',List.contains_eq_mem,decide_eq_false_iff_not] at hcond
      obtain ⟨⟨hclosed,hzz⟩,hππ⟩:=hcond
      split at h
      rotate_left
      · simp at h
      rename_i xs hxs
      have hxa:=uL kinds args ps xs hps hxs
      simp only [Tr.val_bind,fO] at h
      obtain ⟨⟨r,h'⟩,hGv,h⟩:=h
      unfold Kt at h
      split at h
      · rename_i hle
        simp only [Tr.val_ok,bz] at h
        simp only [jx,aV,fE,xA] at hclosed
        obtain ⟨⟨⟨hc1,hc2⟩,hc3⟩,_⟩:=hclosed
        have hnd:=yX hc3
        have hzfp:∀ i∈z,i∈fp:=fun i hi=>hin i (oe kinds args i (by rw [hz]; exact hi))
        generalize hU1:(fun b=>U b∧¬ ∃ j∈z,ag ρ j (hp j) b)=U1
        have hU1sub:∀ b,U1 b→U b:=by intro b h; rw [← hU1] at h; exact h.1
        have hzU:∀ j∈z,∀ b,ag ρ j (hp j) b→¬ U1 b:=fun j hj b ho h=>by rw [← hU1] at h; exact h.2 ⟨j,hj,ho⟩
        have hpk:=iS (w:=w) (U:=U) (ρ:=ρ) (U':=U1) (ρ':=fun j=>(π[j]?).bind ρ) (hp:=hp) (f:=fun i=>π.idxOf i) hU1sub kinds args vals ps hps hr
          (fun id hid=>⟨hfp.ob id (hzfp id (by rw [← hz]; exact hid)),hzU id (by rw [← hz]; exact hid)⟩)
          (fun id hid=>by
            have hlt:π.idxOf id < π.length:=List.idxOf_lt_length_iff.2 (hc1 id hid)
            rw [zP hlt,List.getElem_idxOf hlt]
            rfl)
        obtain ⟨hargs,hobjin⟩:=hpk
        rw [← hxa] at hargs
        have hπfp:∀ i∈π,i∈fp:=by
          rw [← hπ]
          exact qQ hcl 400 _ [] (fun i hi=>hin i (hobjin i hi)) (by simp)
        have hat:∀ id∈π,((π[π.idxOf id]?).bind ρ)=ρ id:=by
          intro id hid
          have hlt:π.idxOf id < π.length:=List.idxOf_lt_length_iff.2 hid
          rw [zP hlt,List.getElem_idxOf hlt]
          rfl
        let C:dl:={ w0:=w,U0:=U1,B0:=fun b=>∃ i∈π,ag ρ i (hp i) b,ρ0:=fun j=>(π[j]?).bind ρ }
        have hownU1:∀ i∈π,∀ b,ag ρ i (hp i) b→U1 b∧b < w.heap.size:=by
          intro i hi b ho
          have:=(hfp.ob i (hπfp i hi)).inU ho
          refine ⟨?_,this.2⟩
          rw [← hU1]
          refine ⟨this.1,fun ⟨j,hj,ho'⟩=>?_⟩
          have e:=hfp.inj i (hπfp i hi) j (hzfp j hj) b ho ho'
          subst e
          exact (hzz i hj).2 hi
        have hobj1:∀ i∈π,bE w U1 ρ i (hp i):=fun i hi=>
          (hfp.ob i (hπfp i hi)).mono (bg _) (fun _ _ _=>rfl) (fun b _ h=>hU1sub b h) (fun _ _ h=>h) (fun b ho=>⟨rfl,(hownU1 i hi b ho).1⟩)
        have hheap:∀ j (hj:j < π.length),(π.map fun i=>(hp i).ren fun i=>π.idxOf i).getD j .dead=(hp π[j]).ren fun i=>π.idxOf i:=by
          intro j hj
          rw [aP,dP,zP hj]
          rfl
        have hheap':∀ j,π.length≤j→(π.map fun i=>(hp i).ren fun i=>π.idxOf i).getD j .dead=.dead:=by
          intro j hj
          rw [aP,dO (by simpa using hj)]
          rfl
        have hρl:∀ j (hj:j < π.length),((π[j]?).bind ρ)=ρ π[j]:=fun j hj=>by rw [zP hj]; rfl
        have hown0:∀ j b,ag (fun j=>(π[j]?).bind ρ) j ((π.map fun i=>(hp i).ren fun i=>π.idxOf i).getD j .dead) b→∃ hj:j < π.length,ag ρ π[j] (hp π[j]) b:=by
          rintro j b ⟨ho,v,hv,hb⟩
          by_cases hlt:j < π.length
          · refine ⟨hlt,?_,v,by rw [← hρl j hlt]; exact hv,hb⟩
            rw [hheap j hlt,y6] at ho
            exact ho
          · rw [hheap' j (by omega)] at ho
            simp [AO.owns] at ho
        have hH0:iL C w U1 (fun j=>(π[j]?).bind ρ) (fun j=>(π.map fun i=>(hp i).ren fun i=>π.idxOf i).getD j .dead):=by
          refine ⟨fun j=>?_,fun j1 j2 b o1 o2=>?_,fun j b o=>?_⟩
          · by_cases hlt:j < π.length
            · rw [hheap j hlt]
              exact (hobj1 π[j] (bP hlt)).ren (hρl j hlt) (fun i hi=>hat i (hc2 π[j] (bP hlt) i hi))
            · rw [hheap' j (by omega)]; trivial
          · obtain ⟨l1,q1⟩:=hown0 j1 b o1
            obtain ⟨l2,q2⟩:=hown0 j2 b o2
            exact (List.getElem_inj hnd).1 (hfp.inj _ (hπfp _ (bP l1)) _ (hπfp _ (bP l2)) b q1 q2)
          · obtain ⟨l1,q1⟩:=hown0 j b o
            exact .inl ⟨π[j],bP l1,q1⟩
        have hW0:Wd E.gl C w U1:=⟨kS.refl w,fun _ _ _=>rfl,fun b hb=>hub b (hU1sub b hb),fun _ _ h=>h,fun _ _ h _=>h,fun g=>(hgl g).weak hU1sub⟩
        have hcalls:=hG _ _ _ hGv C w U1 _ vals (fun id hid=>by
            simp only [dI] at hid
            show (π[id]?).bind ρ=none
            rw [dO hid]; rfl) hargs hH0 (fun id hid=>by
            simp only [dI] at hid
            rw [dO hid]; rfl) (fun _ _ h=>h) hW0
        have hwrfp:∀ id o,(id,o)∈f.wr→id∈fp:=by
          intro id o hio
          rw [← h] at hio
          simp only [bK,fQ] at hio
          rcases hio with ⟨p,hp',he⟩ | hio
          · have:p.1∈π:=(List.of_mem_zip hp').1
            cases he
            exact hπfp _ this
          · split at hio
            · simp at hio
            · exact hzfp id (cN hio).1
        refine ⟨hcalls.mono ?_,hwrfp⟩
        rintro e w' ⟨v,r',h'',U',ρ',rfl,hq,hrv,hH',hnew',hr0',hW'⟩
        cases hq
        by_cases hbor:(tD r&&π.isEmpty&&h'.isEmpty)=true
        ·
          rw [if_pos hbor] at h
          simp only [aV,List.isEmpty_iff] at hbor
          obtain ⟨⟨hsc,rfl⟩,rfl⟩:=hbor
          simp at h
          subst h
          refine ⟨v,U,ρ,rfl,⟨hW'.ext,Jx hsc hrv,by simp,by simp,fun _ _=>rfl,fun _ _ h=>h,fun b hb _=>hW'.same b hb (by simp [C]),fun b hb=>nB (hub b hb) hW'.ext.sz,fun _ _ h=>h,fun _ _ h _=>h,by simp,by simp⟩⟩
        · rw [if_neg hbor] at h
          let ρf:Nat→Option Value:=fun id=>if n≤id∧id < n+(h'.length - π.length) then ρ' (π.length+(id - n)) else ρ id
          have hlive:∀ j (hj:j < π.length),ρ' j=ρ π[j]:=by
            intro j hj
            obtain ⟨x,hx⟩:=Pb (hππ π[j] (bP hj)).2 (hfp.ob π[j] (hπfp _ (bP hj)))
            rw [hx]
            exact hr0' j x (by show (π[j]?).bind ρ=some x; rw [hρl j hj]; exact hx)
          have hg:∀ j,j < h'.length→ρf (mA π n j)=ρ' j:=by
            intro j hj
            unfold mA
            split
            · rename_i hlt
              rw [aP,zP hlt]
              show (if n≤π[j]∧π[j] < n+(h'.length - π.length) then ρ' (π.length+(π[j] - n)) else ρ π[j])=ρ' j
              rw [if_neg (by have:=(hππ π[j] (bP hlt)).1; omega),hlive j hlt]
            · rename_i hge
              show (if n≤n+(j - π.length)∧n+(j - π.length) < n+(h'.length - π.length) then ρ' (π.length+(n+(j - π.length) - n)) else ρ (n+(j - π.length)))=ρ' j
              rw [if_pos (by omega),show π.length+(n+(j - π.length) - n)=j by omega]
          have hnwl:f.nw.length=h'.length - π.length:=by rw [← h]; simp
          have hrhon:∀ id x,ρ id=some x→ρf id=some x:=by
            intro id x hx
            show (if n≤id∧id < n+(h'.length - π.length) then ρ' (π.length+(id - n)) else ρ id)=some x
            rw [if_neg]
            · exact hx
            · rintro ⟨h1,h2⟩
              have:=hn (id - n) (by omega)
              rw [show n+(id - n)=id by omega,hx] at this
              cases this
          have hg':∀ j x,ρ' j=some x→ρf (mA π n j)=some x:=by
            intro j x hx
            by_cases hj:j < h'.length
            · rw [hg j hj]; exact hx
            · rw [hnew' j (by omega)] at hx; cases hx
          have hloc:∀ j (hj:j < h'.length),bE w' U' ρf (mA π n j) (h'[j].ren (mA π n)):=by
            intro j hj
            have:=hH'.ob j
            rw [show h'.getD j .dead=h'[j] by simp [hj]] at this
            exact this.ren' (fun x hx=>hg' j x hx) (fun i _ x hx=>hg' i x hx)
          have hwr:∀ id o,(id,o)∈f.wr→(∃ j,∃ hj:j < h'.length,j < π.length∧id=mA π n j∧o=h'[j].ren (mA π n))∨(id∈z∧o=yD (hp id)):=by
            intro id o hio
            rw [← h] at hio
            simp only [bK,fQ] at hio
            rcases hio with ⟨p,hp',he⟩ | hio
            · obtain ⟨j,hj,hjp⟩:=kD hp'
              have hj':j < π.length∧j < h'.length:=by rw [List.length_zip] at hj; omega
              rw [List.getElem_zip] at hjp
              subst hjp
              cases he
              refine .inl ⟨j,hj'.2,hj'.1,?_,rfl⟩
              simp [mA,hj'.1]
            · exact .inr (cN hio)
          have hnw:∀ (k:Nat) o,f.nw[k]?=some o→∃ hj:π.length+k < h'.length,n+k=mA π n (π.length+k)∧o=h'[π.length+k].ren (mA π n):=by
            intro k o hk
            rw [← h] at hk
            simp only [dP,rO,cW] at hk
            obtain ⟨a,ha,rfl⟩:=hk
            obtain ⟨hj,ha⟩:=cn.1 ha
            exact ⟨hj,by unfold mA; rw [if_neg (by omega)]; omega,by rw [ha]⟩
          have hfz0:∀ (id:Nat),(yD (hp id)).owns=true→nq (hp id)=true→False:=by
            intro id h1 h2
            cases hh:hp id <;> rw [hh] at h1 h2 <;> simp [yD,AO.owns,nq] at h1 h2
          have key:∀ id o b,((id,o)∈f.wr∨(n≤id∧f.nw[id - n]?=some o))→ag ρf id o b→∃ j,id=mA π n j∧ag ρ' j (h'.getD j .dead) b:=by
            intro id o b hio ho
            have fin:∀ j (hj:j < h'.length),id=mA π n j→o=h'[j].ren (mA π n)→∃ j,id=mA π n j∧ag ρ' j (h'.getD j .dead) b:=by
              rintro j hj rfl rfl
              refine ⟨j,rfl,?_⟩
              obtain ⟨h1,x,h2,h3⟩:=ho
              rw [y6] at h1
              rw [hg j hj] at h2
              refine ⟨?_,x,h2,h3⟩
              rw [show h'.getD j .dead=h'[j] by simp [hj]]
              exact h1
            rcases hio with hio | ⟨hge,hio⟩
            · rcases hwr id o hio with ⟨j,hj,_,h1,h2⟩ | ⟨h1,rfl⟩
              · exact fin j hj h1 h2
              · exact (hfz0 id ho.1 (hzz id h1).1).elim
            · obtain ⟨hj,h1,h2⟩:=hnw _ o hio
              exact fin _ hj (by rw [← h1]; omega) h2
          have hB0:∀ b,C.B0 b→∃ id o,(id,o)∈f.wr∧ag ρ id (hp id) b:=by
            rintro b ⟨i,hi,ho⟩
            obtain ⟨j,hj,rfl⟩:=kD hi
            refine ⟨π[j],h'[j].ren (mA π n),?_,ho⟩
            rw [← h]
            simp only [bK,fQ]
            refine .inl ⟨(π[j],h'[j]),?_,rfl⟩
            have:(π.zip h')[j]?=some (π[j],h'[j]):=by simp [List.getElem?_zip_eq_some,hj,nB hj hle]
            exact kC this
          have hzwr:∀ i∈z,(i,yD (hp i))∈f.wr:=by
            intro i hi
            rw [← h]
            simp only [bK]
            exact .inr (o6 hi)
          refine ⟨v,U',ρf,rfl,⟨hW'.ext,?_,?_,?_,?_,hrhon,?_,hW'.ub,?_,?_,?_,?_⟩⟩
          · rw [← h]; exact hrv.ren' (fun i _ x hx=>hg' i x hx)
          · intro id o hio
            rcases hwr id o hio with ⟨j,hj,_,rfl,rfl⟩ | ⟨hiz,rfl⟩
            · exact hloc j hj
            · refine (o5 (hfp.ob id (hzfp id hiz)) (hzz id hiz).1 hU1sub (hzU id hiz)).mono hW'.ext.sz (fun b hb hnu=>?_) hW'.u1 hrhon (fun b ho=>(hfz0 id ho.1 (hzz id hiz).1).elim)
              exact hW'.same b hb (fun ⟨i,hi,ho⟩=>hnu (hownU1 i hi b ho).1)
          · intro k o hk
            obtain ⟨hj,h1,rfl⟩:=hnw k o hk
            rw [h1]; exact hloc _ hj
          · intro id hid
            show (if n≤id∧id < n+(h'.length - π.length) then ρ' (π.length+(id - n)) else ρ id)=ρ id
            rw [hnwl] at hid
            rw [if_neg (by omega)]
          · intro b hb hno
            refine hW'.same b hb (fun hB=>?_)
            obtain ⟨id,o,h1,h2⟩:=hB0 b hB
            exact hno id o h1 h2
          · intro b hb hu
            exact hU1sub b (hW'.u1 b hb hu)
          · intro b hb hu hno
            refine hW'.u2 b hb ?_ (fun hB=>?_)
            · show U1 b
              rw [← hU1]
              exact ⟨hu,fun ⟨j,hj,ho⟩=>hno j _ (hzwr j hj) ho⟩
            · obtain ⟨id,o,h1,h2⟩:=hB0 b hB
              exact hno id o h1 h2
          · intro id o b hio ho
            obtain ⟨j,_,hj⟩:=key id o b hio ho
            rcases hH'.blk j b hj with hB | hB
            · exact .inr (hB0 b hB)
            · exact .inl hB
          · intro id1 o1 id2 o2 b h1 h2 ho1 ho2
            obtain ⟨j1,e1,q1⟩:=key id1 o1 b h1 ho1
            obtain ⟨j2,e2,q2⟩:=key id2 o2 b h2 ho2
            rw [e1,e2,hH'.inj j1 j2 b q1 q2]
      · simp at h
    · simp at h
  · simp at h

theorem M9 {P:Program} {gl:Nat→AV} {k:FuncId} {kinds:List (Option Sh)} {G:ie kinds} (hfn:∃ fn,E.P.funcs[k]?=some fn∧(fn.name == "runtime.NumGoroutine")=false∧fn.body.isNone=false)
  (hG:∀ x h0 res,(G x h0).val=some res→QK E k (kF kinds x) h0 (fun r h=>(r,h)=res)) (qp:E.P=P:=by rfl) (qg:E.gl=gl:=by rfl):nl P gl k (bh kinds G):=by
 subst qp qg
 exact ic hfn fun x h0 res hx=>(hG x h0 res hx).calls

end
end Cad
