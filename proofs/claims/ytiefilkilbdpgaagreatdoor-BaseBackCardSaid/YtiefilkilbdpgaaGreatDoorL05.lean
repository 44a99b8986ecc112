/- Functions: from a run to a contract. A function's contract, lifted to whatever calls it. -/
import Derived.Test.YtiefilkilbdpgaaGreatDoorL04
namespace Cad
open Go

def Tr.Sat {α:Type} (Φ:α→Prop):Tr α→Prop
 | .err=>False
 | .chk c t=>c=true∧t.Sat Φ
 | .br c t f=>(c=true→t.Sat Φ)∧(c=false→f.Sat Φ)
 | .ok a=>Φ a

theorem Tr.sat_val {α:Type} {Φ:α→Prop}:∀ {t:Tr α},t.Sat Φ→∃ a,t.val=some a∧Φ a
 | .err,h=>h.elim
 | .chk c t,⟨hc,h⟩=>by subst hc; simpa [Tr.val] using sat_val h
 | .br c t f,⟨h1,h2⟩=>by
  cases c
  ·simpa [Tr.val] using sat_val (h2 rfl)
  ·simpa [Tr.val] using sat_val (h1 rfl)
 | .ok a,h=>⟨a,rfl,h⟩

theorem Tr.sat_bind {α β:Type} {Φ:β→Prop} {k:α→Tr β}:∀ {t:Tr α},(t.bind k).Sat Φ→t.Sat fun a=>(k a).Sat Φ
 | .err,h=>h
 | .chk _ _,⟨hc,h⟩=>⟨hc,sat_bind h⟩
 | .br _ _ _,⟨h1,h2⟩=>⟨fun hc=>sat_bind (h1 hc),fun hc=>sat_bind (h2 hc)⟩
 | .ok _,h=>h

def K0 (E:bq) (C:cr) (Q:AV→List AO→Prop) (e:Ending) (w':World):Prop:=
 ∃ v r h' U' ρ',e=.returned v∧Q r h'∧Rv w' U' ρ' r v∧gI C w' U' ρ' (fun j=>h'.getD j .dead)∧(∀ id,h'.length≤id→ρ' id=none)∧(∀ id v,C.ρ0 id=some v→ρ' id=some v)∧Wd E.gl C w' U'

def Reach (E:bq) (C:cr) (fn:FuncId) (todo:List Item) (st:St) (Q:AV→List AO→Prop):Prop:=
 ∀ (b:Frame) (cs:List Frame) (a:Act) (w:World) (U:Nat→Prop) (ρ:Nat→Option Value),b.fn=fn→b.kind=.normal→Cn C st a w U ρ→Wd E.gl C w U→
  ∃ e w' fr,K0 E C Q e w'∧Comes E.P (lone (b.at a todo) cs w) (lone fr cs w') e∧fr.fn=fn∧fr.leaving E.P w' e

def g7 (E:bq) (C:cr) (fn:FuncId) (Q:AV→List AO→Prop):zt→Prop
 | .head _ k st=>Reach E C fn k st Q
 | .ret v h=>Q v h
 | .fork c k1 k2 st=>(c=true→Reach E C fn k1 st Q)∧Reach E C fn k2 st Q

section
variable {E:bq} {C:cr} {fn:FuncId} {Q:AV→List AO→Prop}

theorem Reach.step {todo todo':List Item} {st:St} (h:Reach E C fn todo' st Q) (hs:∀ (b:Frame) (a:Act) (cs:List Frame) (w:World),step E.P (lone (b.at a todo) cs w)=.next (lone (b.at a todo') cs w)):Reach E C fn todo st Q:=by
 intro b cs a w U ρ h1 h2 hc hW
 obtain ⟨e,w',fr,hp,hcm,hf,hl⟩:=h b cs a w U ρ h1 h2 hc hW
 exact ⟨e,w',fr,hp,lv (.one (hs b a cs w)) hcm,hf,hl⟩

def CA (tmps:Array Value):ResultVar→Go.Sem Value
 | .tmp t=>pure (tmps.getD t undef)
 | .cell x t=>do loadVar t (← asAddr (tmps.getD x undef))

theorem G2 (f:Func) (tmps:Array Value):results f tmps=(do
  let vs ← f.results.mapM (CA tmps)
  pure (if h:vs.size=1 then vs[0] else .tuple vs)):=by
 unfold results
 congr 2

theorem xj {a:Act} {w:World} {U:Nat→Prop} {ρ:Nat→Option Value} {st:St} (hc:Cn C st a w U ρ):∀ (rs:List ResultVar) (vs:List AV),qh E st rs=some vs→
  ∃ xs:List Value,(rs.mapM (CA a.tmps)).run E.P w=.ok xs w∧cu w U ρ vs xs
 | [],vs,h=>by
  simp [qh] at h; subst h
  exact ⟨[],by simp,rfl,by simp⟩
 | r :: rs,vs,h=>by
  simp only [qh] at h
  split at h
  ·rename_i v vs' hv hvs
   cases h
   obtain ⟨xs,hrun,hrv⟩:=xj hc rs vs' hvs
   have hslot:∀ t,Rv w U ρ (st.tmps.getD t .any) (a.tmps.getD t undef):=by
    intro t
    by_cases ht:t < st.tmps.length
    ·have ht':t < a.tmps.toList.length:=by rw [← hc.tm.len]; exact ht
     refine hc.tm.rv t _ _ (by rw [aD,zI ht]; rfl) ?_
     rw [jJ]
     have:t < a.tmps.size:=by simpa using ht'
     simp [ip this]
    ·rw [aD,dh (by omega)]
     exact .any _
   have one:∃ x,(CA a.tmps r).run E.P w=.ok x w∧Rv w U ρ v x:=by
    cases r with
    | tmp t=>
     simp only [CB,aq] at hv
     subst hv
     exact ⟨_,rfl,hslot t⟩
    | cell x t=>
     simp only [CB] at hv
     have hs:=hslot x
     split at hv
     ·rename_i id off hp
      rw [hp] at hs
      generalize hvx:a.tmps.getD x undef=vx at hs
      split at hv
      ·rename_i cs hcs
       have ho:=hc.hp.ob id
       rw [hcs] at ho
       have:=Al (P:=E.P) (w:=w) (U:=U) (ρ:=ρ) (hp:=st.hp) (t:=t) (av:=.ptr id off) (v:=vx) (f:={ val:=v }) (by simp [BS,hcs,hv]) hs (fun i hi=>hc.hp.ob i)
       obtain ⟨r',x',e1,hrun',hr'⟩:=this
       cases e1
       cases hs with
       | ptr _ _ b hb=>
       refine ⟨x',?_,hr'⟩
       simp only [CA,hvx,asAddr,cR,ph,jr]
       simpa [Instr.loadAt,Instr.sureAddr] using hrun'
      ·cases hv
     ·cases hv
   obtain ⟨x,hx,hrx⟩:=one
   refine ⟨x::xs,?_,⟨by simp [hrv.len],fun j c y hc' hy=>?_⟩⟩
   ·simp only [List.mapM_cons,cR,hx,jr,hrun,ph]
   ·cases j with
    | zero=>simp at hc' hy; subst hc'; subst hy; exact hrx
    | succ j=>exact hrv.rv j c y (by simpa using hc') (by simpa using hy)
  ·cases h

theorem YO {n0:Nat} {f:Func} (_:E.P.funcs[fn]?=some f) (hC:∀ id,n0≤id→C.ρ0 id=none) {rs:List ResultVar} (hrs:f.results.toList=rs) {st:St} (h:(qf E n0 rs st).Sat (g7 E C fn Q))
  {a:Act} {w:World} {U:Nat→Prop} {ρ:Nat→Option Value} (hc:Cn C st a w U ρ) (hW:Wd E.gl C w U):∃ v,(results f a.tmps).run E.P w=.ok v w∧K0 E C Q (.returned v) w:=by
 unfold qf at h
 split at h
 ·rename_i vs hvs
  obtain ⟨xs,hrun,hrv⟩:=xj hc rs vs hvs
  simp only at h
  have hres:(results f a.tmps).run E.P w=.ok (if h:xs.toArray.size=1 then xs.toArray[0] else .tuple xs.toArray) w:=by
   rw [G2,cR,Array.mapM_eq_mapM_toList,Sem.run_map,hrs,hrun]
   rfl
  have hval:Rv w U ρ (Cb vs) (if h:xs.toArray.size=1 then xs.toArray[0] else .tuple xs.toArray):=by
   clear h hvs hrun hres
   have hl:=hrv.len
   match vs,xs,hl,hrv with
   | [c],[x],_,hrv=>simpa [Cb] using hrv.rv 0 c x rfl rfl
   | [],[],_,_=>simpa [Cb] using Rv.tup (w:=w) (U:=U) (ρ:=ρ) [] [] rfl (by simp)
   | c1::c2::cs,x1::x2::xs,hl,hrv=>
    rw [dif_neg (by simp)]
    exact .tup _ _ hl hrv.rv
  refine ⟨_,hres,?_⟩
  split at h
  ·rename_i hcl
   obtain ⟨e1,e2,e3,e4⟩:=I2 hC hcl hc.hp hc.r0
   exact ⟨_,_,_,U,_,rfl,h,hval.ren e1,e2,by simpa using e3,e4,hW⟩
  ·exact h.elim
 ·exact h.elim

theorem uQ {a:Act} {w:World} {U:Nat→Prop} {ρ:Nat→Option Value} {st:St} {c:Operand} {t:Bool} (hc:Cn C st a w U ρ) (hx:a.eval c=.bool t):Cn C (tf st c t) a w U ρ:=by
 unfold tf
 split
 ·rename_i i
  refine { hc with tm:=⟨by simpa using hc.tm.len,fun j d v hd hv=>?_⟩ }
  rw [jq] at hd
  split at hd
  ·rename_i hij
   subst hij
   split at hd
   ·cases hd
    have:a.eval (.tmp i)=v:=by
     simp only [Act.eval]
     rw [jJ]
     have:=bP.1 hv
     obtain ⟨h1,h2⟩:=this
     have h1':i < a.tmps.size:=by simpa using h1
     simp [ip h1',← h2]
    rw [this] at hx
    subst hx
    exact .kb t
   ·cases hd
  ·exact hc.tm.rv j d v hd hv
 ·exact hc

theorem Jy {w:World} {U:Nat→Prop} {ρ:Nat→Option Value} {hp:Nat→AO} {av:AV} {v:Value} {c:Bool} (h:BA hp av=some c) (hr:Rv w U ρ av v) (hob:∀ id,bb w U ρ id (hp id)):∃ a n cp,v=.slice a n cp∧(a=none→c=true):=by
 have fin:∀ {e:Sh} {l:List (Sem e)} {v:Value},Rv w U ρ (.sl e l) v→∃ a n cp,v=.slice a n cp∧(a=none→l.isEmpty=true):=by
  intro e l v hr
  cases hr with
  | sl0 _ a c=>exact ⟨a,0,c,rfl,fun _=>rfl⟩
  | sl _ _ b o c _ _ _ _ _ _ _=>exact ⟨some ⟨b,o,none⟩,_,c,rfl,fun h=>by cases h⟩
 cases av <;> simp [BA] at h
 case nils=>
  subst h
  cases hr with
  | nils a=>exact ⟨a,0,0,rfl,fun _=>rfl⟩
 case sl e l=>
  subst h
  obtain ⟨a,n,cp,h1,h2⟩:=fin hr
  exact ⟨a,n,cp,h1,fun h=>by simpa using h2 h⟩
 case vec id=>
  cases hr with
  | vec _ _ hv _=>
  have ho:=hob id
  split at h
  ·rename_i e l hid
   simp only [aq] at h
   subst h
   rw [hid] at ho
   obtain ⟨a,c,h1,_,h3⟩:=ho
   rw [hv] at h1; cases h1
   refine ⟨a,_,c,rfl,fun ha=>?_⟩
   rcases h3 with ⟨rfl,_⟩ | ⟨b,T,arr,hb,_⟩
   ·rfl
   ·rw [ha] at hb; cases hb
  ·rename_i e l hid
   simp only [aq] at h
   subst h
   rw [hid] at ho
   obtain ⟨v',h1,h2⟩:=ho
   rw [hv] at h1; cases h1
   exact fin h2
  ·cases h

theorem Q6 {P:Program} {w:World} {t el:TypeId} (hu:P.underlying t=some (.slice el)) (px qx:Operand) (p:Option Addr) (n cp:Nat):
  (do eqGuard .eql t px qx (.slice p n cp) (.slice none 0 0); binOp .eql t (.slice p n cp) (.slice none 0 0):Go.Sem Value).run P w=.ok (.bool p.isNone) w:=by
 have g:(eqGuard .eql t px qx (.slice p n cp) (.slice none 0 0)).run P w=.ok () w:=by simp [eqGuard]
 have e:(Op.equal t (.slice p n cp) (.slice none 0 0)).run P w=.ok p.isNone w:=by
  show (Op.equalIn (9999+1) t (.slice p n cp) (.slice none 0 0)).run P w=.ok p.isNone w
  unfold Op.equalIn
  rw [cR,aT hu]
  cases p <;> rfl
 have hb:(binOp .eql t (.slice p n cp) (.slice none 0 0):Go.Sem Value)=(do pure (.bool (← Op.equal t (.slice p n cp) (.slice none 0 0)))):=rfl
 rw [cR,g,jr,hb,cR,e,jr]
 rfl

theorem Gw {st:St} {ca cb thn els:Code} {s x d:Nat} {t:TypeId} {c:Bool} {k:List Item} (hn:B9 ca cb=some (s,x,d,t,thn,els)) (he:BA st.hp (st.tmps.getD s .any)=some c) (ht:Gh E.P t=true) (hd:d < st.tmps.length) (hx:x < st.tmps.length)
  (h1:c=true→Reach E C fn (.code thn::k) { st with tmps:=(st.tmps.set x (st.tmps.getD s .any)).set d .any } Q) (h2:Reach E C fn (.code els::k) { st with tmps:=(st.tmps.set x (st.tmps.getD s .any)).set d .any } Q):Reach E C fn (.code (.seq ca cb)::k) st Q:=by
 unfold B9 at hn
 split at hn
 ·rename_i id ops d' a0 b0
  split at hn
  ·rename_i o1 o2 hops
   split at hn
   ·rename_i x' s' d0 t0 x1 ty e1 e2 e3 e4 e5 e6
    split at hn
    ·rename_i hcond
     obtain ⟨rfl,rfl,hxd⟩:=hcond
     cases hn
     intro b cs a w U ρ hb1 hb2 hc hW
     have hsl:∃ el,E.P.underlying t=some (.slice el):=by
      unfold Gh at ht
      split at ht
      ·exact ⟨_,‹_›⟩
      ·cases ht
     obtain ⟨el,hu⟩:=hsl
     have hev:Rv w U ρ (st.tmps.getD s .any) (a.eval (.tmp s)):=by
      have:=BU (E:=E) (known:=[]) hc.tm (by simp) hW.gl (.tmp s)
      simpa [qF] using this
     obtain ⟨p,n,cp,hv,hnone⟩:=Jy he hev (fun id=>hc.hp.ob id)
     have hlen:st.tmps.length=a.tmps.size:=by have:=hc.tm.len; simpa using this
     have hops':ops = #[o1,o2]:=by apply j6; simpa using hops
     generalize hA1:a.put (some x) (a.eval (.tmp s))=a1
     have hx1:a1.eval (.tmp x)=.slice p n cp:=by
      rw [← hA1,hv]
      simp only [Act.eval,Act.put]
      rw [jJ]
      simp [hlen▸hx]
     have hreg:(Code.region id ops false).wp E.P (fun e a' w'=>e=.normal∧w'=w∧a'=a1.put (some d) (.bool p.isNone)) a w:=by
      refine wp_region ?_
      rw [hops']
      show wpOps E.P #[o1,o2] _ [0,1] a w
      simp only [wpOps,Dk,List.getElem?_cons_zero,Region.wanted,e3,if_true]
      refine .inl (dM (v:=a.eval (.tmp s)) (w':=w) (by simp [execOp,e2]) ?_)
      rw [e1,hA1]
      simp only [List.getElem?_cons_succ,List.getElem?_cons_zero,e6,if_true]
      refine .inl (dM (v:=.bool p.isNone) (w':=w) ?_ ?_)
      ·have hx1':a1.tmps.getD x undef=.slice p n cp:=hx1
       have hnr:=Q6 (w:=w) hu (.tmp x) (.const (.slice none 0 0)) p n cp
       have h1e:a1.eval (.tmp x)=.slice p n cp:=hx1
       have h2e:a1.eval (.const (.slice none 0 0))=.slice none 0 0:=rfl
       unfold execOp
       rw [e5]
       simp only [h1e,h2e]
       simp only [cR] at hnr ⊢
       simp [hnr]
      ·rw [e4]; exact ⟨trivial,rfl,rfl⟩
     obtain ⟨e,a',w',⟨rfl,rfl,rfl⟩,harr⟩:=hreg b (.code (.cond (.tmp d) thn els)::k) cs
     have hcn:Cn C { st with tmps:=(st.tmps.set x (st.tmps.getD s .any)).set d .any } (a1.put (some d) (.bool p.isNone)) w' U ρ:=by
      refine ⟨?_,hc.hp,hc.new,?_,hc.r0⟩
      ·have r1:=tq (d:=some x) hc.tm hev
       rw [hA1] at r1
       exact tq (d:=some d) r1 (.any (.bool p.isNone))
      ·rw [← hA1]; exact hc.df
     have hd1:(a1.put (some d) (.bool p.isNone)).eval (.tmp d)=.bool p.isNone:=by
      have hl1:d < a1.tmps.size:=by rw [← hA1]; simp [Act.put]; omega
      simp only [Act.eval,Act.put]
      rw [jJ]
      simp [hl1]
     cases hp:p with
     | none=>
      rw [hp] at hd1 harr hcn
      obtain ⟨e,w'',fr,q1,q2,q3⟩:=h1 (hnone hp) b cs _ w' U ρ hb1 hb2 hcn hW
      exact ⟨e,w'',fr,q1,lv (.one step_seq) (lv harr (lv (.one (step_cond hd1)) q2)),q3⟩
     | some pa=>
      rw [hp] at hd1 harr hcn
      obtain ⟨e,w'',fr,q1,q2,q3⟩:=h2 b cs _ w' U ρ hb1 hb2 hcn hW
      exact ⟨e,w'',fr,q1,lv (.one step_seq) (lv harr (lv (.one (step_cond hd1)) q2)),q3⟩
    ·cases hn
   ·cases hn
  ·cases hn
 ·cases hn

theorem AS (hE:zm E) {n0:Nat} {f:Func} (hf:E.P.funcs[fn]?=some f) (hC:∀ id,n0≤id→C.ρ0 id=none) {rs:List ResultVar} (hrs:f.results.toList=rs) {keep:Nat→zY}:
  ∀ (n:Nat) (todo:List Item) (st:St),(run E n0 keep rs n todo st).Sat (g7 E C fn Q)→Reach E C fn todo st Q
 | 0,_,_,h=>h.elim
 | n + 1,todo,st,h=>by
  have ih:=AS hE hf hC hrs (keep:=keep) n
  have head:∀ (c:Code) (k:List Item),(jb n0 (keep (dn c)) (dn c) (.code c::.inLoop c::k) st).Sat (g7 E C fn Q)→Reach E C fn (.code c::.inLoop c::k) st Q:=by
   intro c k h
   unfold jb at h
   split at h
   ·rename_i st' hn
    intro b cs a w U ρ h1 h2 hc hW
    obtain ⟨ρ',hc'⟩:=H9 hC hn hc
    exact h b cs a w U ρ' h1 h2 hc' hW
   ·exact h.elim
  have cut:∀ (kp:zY) (key:Nat) (todo:List Item) (st:St),(jb n0 kp key todo st).Sat (g7 E C fn Q)→Reach E C fn todo st Q:=by
   intro kp key todo st h
   unfold jb at h
   split at h
   ·rename_i st' hn
    intro b cs a w U ρ h1 h2 hc hW
    obtain ⟨ρ',hc'⟩:=H9 hC hn hc
    exact h b cs a w U ρ' h1 h2 hc' hW
   ·exact h.elim
  have ending:(qf E n0 rs ((keep 1000000).sett.foldl AX ((keep 1000000).prom.foldl pV st))).Sat (g7 E C fn Q)→∀ (todo:List Item),(∀ (b:Frame) (a:Act) (cs:List Frame) (w:World),step E.P (lone (b.at a todo) cs w)=.next (lone { b.at a todo with mode:=.returning } cs w))→Reach E C fn todo st Q:=by
   intro h todo hs b cs a w U ρ h1 h2 hc hW
   obtain ⟨ρ',hc'⟩:=wz (keep 1000000).prom hc
   obtain ⟨U',hc2,hW2⟩:=E7 (gl:=E.gl) (keep 1000000).sett hc' hW
   obtain ⟨v,hr,hp⟩:=YO hf hC hrs h hc2 hW2
   refine ⟨.returned v,w,{ b.at a todo with mode:=.returning },hp,.one (hs b a cs w),h1,rfl,hc.df,h2,f,?_,hr⟩
   show E.P.funcs[b.fn]?=some f
   rw [h1]; exact hf
  unfold run at h
  split at h
  ·exact ending h [] (fun b a cs w=>step_end)
  ·exact (ih _ _ h).step (fun b a cs w=>step_inBlock)
  ·split at h
   ·exact (ih _ _ h).step (fun b a cs w=>step_inLoop)
   ·exact (head _ _ h).step (fun b a cs w=>step_inLoop)
  ·rename_i c k
   split at h
   ·exact (ih _ _ h).step (fun b a cs w=>step_skip)
   ·exact (ih _ _ h).step (fun b a cs w=>step_label)
   ·split at h
    ·rename_i hn
     split at h
     ·rename_i c he
      split at h
      ·rename_i hcond
       simp only [aG,zW] at hcond
       exact Gw hn he hcond.1 hcond.2.1 hcond.2.2 h.1 h.2
      ·exact h.elim
     ·exact h.elim
    ·exact (ih _ _ h).step (fun b a cs w=>step_seq)
   ·rename_i co x y
    intro b cs a w U ρ h1 h2 hc hW
    have hev:=BU (E:=E) (known:=[]) hc.tm (by simp) hW.gl co
    generalize hx:a.eval co=v at hev
    split at h
    ·rename_i hco
     rw [hco] at hev; cases hev
     obtain ⟨e,w',fr,q1,q2,q3⟩:=ih _ _ h b cs a w U ρ h1 h2 hc hW
     exact ⟨e,w',fr,q1,lv (.one (step_cond hx)) q2,q3⟩
    ·rename_i hco
     rw [hco] at hev; cases hev
     obtain ⟨e,w',fr,q1,q2,q3⟩:=ih _ _ h b cs a w U ρ h1 h2 hc hW
     exact ⟨e,w',fr,q1,lv (.one (step_cond hx)) q2,q3⟩
    ·rename_i t hco
     rw [hco] at hev; cases hev
     cases t
     ·obtain ⟨e,w',fr,q1,q2,q3⟩:=ih _ _ (h.2 rfl) b cs a w U ρ h1 h2 (uQ hc hx) hW
      exact ⟨e,w',fr,q1,lv (.one (step_cond hx)) q2,q3⟩
     ·obtain ⟨e,w',fr,q1,q2,q3⟩:=ih _ _ (h.1 rfl) b cs a w U ρ h1 h2 (uQ hc hx) hW
      exact ⟨e,w',fr,q1,lv (.one (step_cond hx)) q2,q3⟩
    ·exact h.elim
   ·exact (ih _ _ h).step (fun b a cs w=>step_block)
   ·split at h
    ·exact (ih _ _ h).step (fun b a cs w=>step_loop)
    ·exact (head _ _ h).step (fun b a cs w=>step_loop)
   ·rename_i id
    split at h
    ·rename_i k' hk
     exact (ih _ _ h).step (fun b a cs w=>step_exit hk)
    ·exact h.elim
   ·exact ending h _ (fun b a cs w=>step_ret)
   ·rename_i id ops draw
    intro b cs a w U ρ h1 h2 hc hW
    obtain ⟨st',hv,hs⟩:=Tr.sat_val (Tr.sat_bind h)
    obtain ⟨e,a',w',⟨rfl,U',ρ',hc',hW'⟩,harr⟩:=x6 (id:=id) hE hv hc hW b k cs
    have hR:Reach E C fn k st' Q:=by
     split at hs
     ·exact cut _ _ _ _ hs
     ·exact ih _ _ hs
    obtain ⟨e,w'',fr,q1,q2,q3⟩:=hR b cs a' w' U' ρ' h1 h2 hc' hW'
    exact ⟨e,w'',fr,q1,lv harr q2,q3⟩
   ·exact h.elim
  ·exact h.elim

end

@[reducible] def zx:List (Option Sh)→Type
 | []=>Unit
 | some s::ks=>Sem s×zx ks
 | none::ks=>AV×zx ks

def gm:(ks:List (Option Sh))→zx ks→List AV
 | [],_=>[]
 | some s::ks,x=>zz s x.1::gm ks x.2
 | none::ks,x=>x.1::gm ks x.2

abbrev cz (ks:List (Option Sh)):=zx ks→List AO→Tr (AV×List AO)

def jC (hp:Nat→AO) (f:Nat→Nat):(ks:List (Option Sh))→List AV→Option (zx ks)
 | [],[]=>some ()
 | some s::ks,a::as=>match r5 hp s a,jC hp f ks as with
  | some x,some r=>some (x,r)
  | _,_=>none
 | none::ks,a::as=>match jC hp f ks as with
  | some r=>some (a.ren f,r)
  | none=>none
 | _,_=>none

def bB (hp:Nat→AO):List (Option Sh)→List AV→Option (List (Bool×AV))
 | [],[]=>some []
 | some s::ks,a::as=>match r5 hp s a,bB hp ks as with
  | some x,some r=>some ((false,zz s x)::r)
  | _,_=>none
 | none::ks,a::as=>match bB hp ks as with
  | some r=>some ((true,a)::r)
  | none=>none
 | _,_=>none

def dV:List (Option Sh)→List AV→List Nat
 | some _::ks,a::as=>cK a++dV ks as
 | none::ks,_::as=>dV ks as
 | _,_=>[]

def lg:AV→Bool
 | .bool _ | .kb _ | .int _ _ | .str _ | .ifc _=>true
 | _=>false

def nB:AV→Bool
 | .tup vs=>vs.all lg
 | v=>lg v

def eM (ps:List (Bool×AV)):List AV:=(ps.filter (·.1)).map (·.2)

def kV (π:List Nat) (n:Nat) (j:Nat):Nat:=if j < π.length then π.getD j 0 else n+(j - π.length)

def H3 (hp:Nat→AO) (n:Nat) (π z:List Nat) (r:AV) (h':List AO):Tr eF:=
  if π.length≤h'.length then
    .ok { val:=r.ren (kV π n),wr:=(π.zip h').map (fun p=>(p.1,p.2.ren (kV π n)))++(if nB r&&π.isEmpty&&h'.isEmpty then [] else eW hp z),
          nw:=(h'.drop π.length).map (AO.ren (kV π n)) }
  else .err

def XT:AO→Bool
 | .dead=>false
 | _=>true

def zS (kinds:List (Option Sh)) (G:cz kinds):zD:=fun args hp n=>
 match bB hp kinds args with
 | some ps=>
  let π:=iv hp 400 (AV.idsL (eM ps)) []
  let z:=dV kinds args
  if iM hp 0 (AV.idsL (eM ps)) π&&z.all (fun i=>lN (hp i) && !π.contains i)&&π.all (fun i=>decide (i < n)&&XT (hp i)) then
   match jC hp (fun i=>π.idxOf i) kinds args with
   | some x=>(G x (π.map fun i=>(hp i).ren fun i=>π.idxOf i)).bind fun p=>H3 hp n π z p.1 p.2
   | none=>.err
  else .err
 | none=>.err

def O0 (E:bq) (k:FuncId) (args:List AV) (h0:List AO) (Q:AV→List AO→Prop):Prop:=
 ∃ f c,E.P.funcs[k]?=some f∧f.body=some c∧(f.name == "runtime.NumGoroutine")=false∧args.length≤f.ntmps∧
  ∀ C:cr,(∀ id,h0.length≤id→C.ρ0 id=none)→Reach E C k [.code c] (af f.ntmps args h0) Q

section
variable {E:bq} {w:World} {U:Nat→Prop} {ρ:Nat→Option Value}

theorem uP {U':Nat→Prop} {ρ':Nat→Option Value} {hp:Nat→AO} {s:Sh} {av:AV} {x:Sem s} {v:Value} (h:r5 hp s av=some x) (hr:Rv w U ρ av v) (hsub:∀ b,U' b→U b)
  (hob:∀ id∈cK av,bb w U ρ id (hp id)∧∀ b,zO ρ id (hp id) b→¬ U' b):Rv w U' ρ' (zz s x) v:=by
 have plain:∀ (c:AV) (v:Value) (j:Nat),(zo s x)[j]?=some c→Rv w U' ρ c v→Rv w U' ρ' c v:=by
  intro c v j hc hr
  have:=hr.ren (ρ':=ρ') (f:=fun i=>i) (fun i hi=>by rw [jw s x j c hc] at hi; simp at hi)
  rwa [mg _ s x j c hc] at this
 obtain ⟨cs,hcs,himp⟩:=r6 h
 obtain ⟨hcv,hcv1⟩:=ek hcs hr
 obtain ⟨q1,q2,q3⟩:=gz (w:=w) (U:=U) (U':=U') (ρ:=ρ) (hp:=hp) hsub s cs x [] (fun j=>(v.cells.toList[j]?).getD undef) himp
  (fun j c hj=>by
   have hlt:j < v.cells.toList.length:=by rw [← hcv.len]; exact (bP.1 hj).1
   exact hcv.rv j c _ hj (by simp [zI hlt]))
  (fun id hid=>hob id (by simpa [cK,hcs] using hid))
 have hsz:v.cells.toList.length=s.size:=by rw [← hcv.len]; simpa using q1
 have hagg:s.isAgg=av.isAgg:=by
  unfold r5 at h
  split at h
  ·rename_i he; simpa using he
  ·cases h
 unfold zz
 cases ha:s.isAgg with
 | true=>
  rw [ha] at hagg
  have hvagg:v=.agg v.cells.toList.toArray:=by
   cases hr with
   | agg cs' vs hl h1 hr=>simp [Value.cells]
   | _=>simp [AV.isAgg] at hagg
  rw [hvagg]
  refine .agg _ _ (by rw [zL,hsz]) hcv1 (fun j c y hc hy=>?_)
  have:=plain c _ j hc (q3 j c hc)
  rw [hy] at this
  exact this
 | false=>
  have hone:∃ c,zo s x=[c]:=by
   cases s <;> simp [Sh.isAgg] at ha <;> simp [zo]
  obtain ⟨c,hc⟩:=hone
  have hs1:s.size=1:=by rw [← zL s x,hc]; rfl
  rw [hc]
  have h0:=plain c _ 0 (by rw [hc]; rfl) (q3 0 c (by rw [hc]; rfl))
  rw [ha] at hagg
  have hv:v.cells.toList[0]?=some v:=by
   cases v with
   | agg arr=>
    cases hr with
    | agg=>simp [AV.isAgg] at hagg
    | any=>simp [cellsOf] at hcs
    | vec _ _ _ h1=>simp [Value.oneCell'] at h1
    | mp _ _ _ h1=>simp [Value.oneCell'] at h1
   | _=>rfl
  rw [hv] at h0
  exact h0

theorem gU {U':Nat→Prop} {ρ':Nat→Option Value} {hp:Nat→AO} {f:Nat→Nat} (hsub:∀ b,U' b→U b):∀ (kinds:List (Option Sh)) (args:List AV) (vals:List Value) (ps:List (Bool×AV)),bB hp kinds args=some ps→
  cu w U ρ args vals→(∀ id∈dV kinds args,bb w U ρ id (hp id)∧∀ b,zO ρ id (hp id) b→¬ U' b)→(∀ id∈AV.idsL (eM ps),ρ' (f id)=ρ id)→
  cu w U' ρ' (ps.map fun p=>if p.1 then p.2.ren f else p.2) vals∧∀ id∈AV.idsL (eM ps),id∈AV.idsL args
 | [],[],vals,ps,h,hr,_,_=>by
  simp [bB] at h; subst h
  exact ⟨by simpa using ⟨hr.len,fun j c v hc=>by simp at hc⟩,by simp [eM,AV.idsL]⟩
 | some s::ks,a::as,[],ps,_,hr,_,_=>by have:=hr.len; simp at this
 | none::ks,a::as,[],ps,_,hr,_,_=>by have:=hr.len; simp at this
 | some s::ks,a::as,v::vals,ps,h,hr,hob,hρ=>by
  simp only [bB] at h
  split at h
  ·rename_i x r hx hrr
   cases h
   have htl:cu w U ρ as vals:=⟨by have:=hr.len; simpa using this,fun j c v hc hv=>hr.rv (j+1) c v hc hv⟩
   obtain ⟨h1,h2⟩:=gU hsub ks as vals r hrr htl (fun id hid=>hob id (by simp [dV,hid])) (fun id hid=>hρ id (by simpa [eM] using hid))
   refine ⟨⟨by simp [h1.len.symm],fun j c y hc hy=>?_⟩,fun id hid=>?_⟩
   ·cases j with
    | zero=>
     simp at hc hy; subst hc; subst hy
     exact uP hx (hr.rv 0 a v rfl rfl) hsub (fun id hid=>hob id (by simp [dV,hid]))
    | succ j=>exact h1.rv j c y (by simpa using hc) (by simpa using hy)
   ·simp only [AV.idsL,aZ]
    exact .inr (h2 id (by simpa [eM] using hid))
  ·cases h
 | none::ks,a::as,v::vals,ps,h,hr,hob,hρ=>by
  simp only [bB] at h
  split at h
  ·rename_i r hrr
   cases h
   have htl:cu w U ρ as vals:=⟨by have:=hr.len; simpa using this,fun j c v hc hv=>hr.rv (j+1) c v hc hv⟩
   obtain ⟨h1,h2⟩:=gU hsub ks as vals r hrr htl (fun id hid=>hob id (by simpa [dV] using hid)) (fun id hid=>hρ id (by simp [eM,AV.idsL] at hid ⊢; exact .inr hid))
   refine ⟨⟨by simp [h1.len.symm],fun j c y hc hy=>?_⟩,fun id hid=>?_⟩
   ·cases j with
    | zero=>
     simp at hc hy; subst hc; subst hy
     exact ((hr.rv 0 a v rfl rfl).weak hsub).ren (fun id hid=>hρ id (by simp [eM,AV.idsL]; exact .inl hid))
    | succ j=>exact h1.rv j c y (by simpa using hc) (by simpa using hy)
   ·simp [eM,AV.idsL] at hid ⊢
    rcases hid with hid | hid
    ·exact .inl hid
    ·exact .inr (h2 id (by simpa [eM] using hid))
  ·cases h
 | [],_::_,_,_,h,_,_,_=>by simp [bB] at h
 | some _::_,[],_,_,h,_,_,_=>by simp [bB] at h
 | none::_,[],_,_,h,_,_,_=>by simp [bB] at h

theorem rx {hp:Nat→AO} {f:Nat→Nat}:∀ (kinds:List (Option Sh)) (args:List AV) (ps:List (Bool×AV)) (x:zx kinds),bB hp kinds args=some ps→jC hp f kinds args=some x→
  gm kinds x=ps.map fun p=>if p.1 then p.2.ren f else p.2
 | [],[],ps,x,h,_=>by simp [bB] at h; subst h; rfl
 | some s::ks,a::as,ps,x,h,hx=>by
  simp only [bB] at h
  simp only [jC] at hx
  split at h
  ·rename_i y r hy hr
   cases h
   rw [hy] at hx
   split at hx
   ·rename_i y' r' hy' hr'
    cases hy'
    cases hx
    simp [gm,rx ks as r r' hr hr']
   ·cases hx
  ·cases h
 | none::ks,a::as,ps,x,h,hx=>by
  simp only [bB] at h
  simp only [jC] at hx
  split at h
  ·rename_i r hr
   cases h
   split at hx
   ·rename_i r' hr'
    cases hx
    simp [gm,rx ks as r r' hr hr']
   ·cases hx
  ·cases h
 | [],_::_,_,_,h,_=>by simp [bB] at h
 | some _::_,[],_,_,h,_=>by simp [bB] at h
 | none::_,[],_,_,h,_=>by simp [bB] at h

theorem mz:∀ (kinds:List (Option Sh)) (args:List AV) (id:Nat),id∈dV kinds args→id∈AV.idsL args
 | some _::ks,a::as,id,h=>by
  simp only [dV,aZ] at h
  simp only [AV.idsL,aZ]
  exact h.imp mw (mz ks as id)
 | none::ks,_::as,id,h=>by
  simp only [dV] at h
  simp only [AV.idsL,aZ]
  exact .inr (mz ks as id h)
 | [],_,_,h=>by simp [dV] at h
 | some _::_,[],_,h=>by simp [dV] at h
 | none::_,[],_,h=>by simp [dV] at h

theorem xu {w':World} {U':Nat→Prop} {ρ':Nat→Option Value} {r:AV} {v:Value} {f:Nat→Nat} (h:nB r=true) (hr:Rv w U ρ r v):Rv w' U' ρ' (r.ren f) v:=by
 have one:∀ (r:AV) (v:Value),lg r=true→Rv w U ρ r v→Rv w' U' ρ' (r.ren f) v:=by
  intro r v h hr
  cases hr <;> simp [lg] at h <;> simp only [AV.ren]
  ·exact .kb _
  ·exact .bool _
  ·exact .int _ _ ‹_›
  ·exact .str _ ‹_›
  ·exact .ifcN
  ·exact .ifcS _ _
 cases r with
 | tup vs=>
  cases hr with
  | tup _ xs hl hrr=>
  simp only [nB,cL] at h
  simp only [AV.ren,gV]
  refine .tup _ xs (by simpa using hl) (fun j c v hc hv=>?_)
  simp only [di,dc] at hc
  obtain ⟨c',hc',rfl⟩:=hc
  exact one c' v (h c' (ig hc')) (hrr j c' v hc' hv)
 | _=>exact one _ v (by simpa [nB] using h) hr

theorem ot {hp:Nat→AO} {S:List Nat} (hcl:∀ id∈S,∀ j∈(hp id).ids,j∈S):∀ (fuel:Nat) (todo seen:List Nat),(∀ i∈todo,i∈S)→(∀ i∈seen,i∈S)→∀ i∈iv hp fuel todo seen,i∈S
 | 0,_,_,_,hs=>hs
 | _+1,[],_,_,hs=>hs
 | n+1,i::r,seen,ht,hs=>by
  simp only [iv]
  split
  ·exact ot hcl n r seen (fun j hj=>ht j (by simp [hj])) hs
  ·refine ot hcl n _ _ (fun j hj=>?_) (fun j hj=>?_)
   ·rcases aZ.1 hj with hj | hj
    ·exact ht j (by simp [hj])
    ·exact hcl i (ht i (by simp)) j hj
   ·rcases aZ.1 hj with hj | hj
    ·exact hs j hj
    ·simp at hj; rw [hj]; exact ht i (by simp)

theorem Nc {id:Nat} {o:AO} (h:XT o=true) (ho:bb w U ρ id o):∃ v,ρ id=some v:=by
 cases o with
 | dead=>simp [XT] at h
 | box cs=>obtain ⟨b,T,vals,h1,_⟩:=ho; exact ⟨_,h1⟩
 | vec e l=>obtain ⟨a,c,h1,_⟩:=ho; exact ⟨_,h1⟩
 | frz e l=>obtain ⟨v,h1,_⟩:=ho; exact ⟨_,h1⟩
 | fmap es=>obtain ⟨r,ents,clock,h1,_⟩:=ho; exact ⟨_,h1⟩
 | vmap u es=>obtain ⟨r,ents,clock,h1,_⟩:=ho; exact ⟨_,h1⟩

theorem uC {C:cr} {k:FuncId} {f:Func} {c:Code} {args:List AV} {vals:List Value} {h0:List AO} {Q:AV→List AO→Prop} (hf:E.P.funcs[k]?=some f) (hb:f.body=some c) (_:args.length≤f.ntmps)
  (hR:Reach E C k [.code c] (af f.ntmps args h0) Q) (hr:cu w U ρ args vals) (hH:gI C w U ρ (fun j=>h0.getD j .dead)) (hnew:∀ id,h0.length≤id→ρ id=none) (hr0:∀ id v,C.ρ0 id=some v→ρ id=some v)
  (hW:Wd E.gl C w U):Calls E.P k vals.toArray w (K0 E C Q):=by
 intro cs
 let b:Frame:={ (default:Frame) with fn:=k,kind:=.normal }
 have henter:Frame.enter E.P k vals.toArray .normal=b.at { tmps:=vals.toArray++Array.replicate (f.ntmps - vals.toArray.size) undef,defers:=[] } [.code c]:=by
  simp [Frame.enter,Frame.at,hf,hb,b]
 rw [henter]
 refine hR b cs _ w U ρ rfl rfl ⟨?_,hH,hnew,rfl,hr0⟩ hW
 have hl:=hr.len
 simp only [af,Array.toList_append,Array.toList_replicate,List.size_toArray]
 rw [← hl]
 refine hr.append ⟨by simp,fun j c v hc hv=>?_⟩
 have e1:c=.tup []:=by
  have:=ig hc
  simpa using (List.mem_replicate.1 this).2
 have e2:v=undef:=by
  have:=ig hv
  simpa using (List.mem_replicate.1 this).2
 rw [e1,e2]
 exact .tup [] [] rfl (by simp)

def Hj (E:bq) (k:FuncId) (args:List AV) (h0:List AO) (Q:AV→List AO→Prop):Prop:=
 ∀ (C:cr) (w:World) (U:Nat→Prop) (ρ:Nat→Option Value) (vals:List Value),(∀ id,h0.length≤id→C.ρ0 id=none)→cu w U ρ args vals→gI C w U ρ (fun j=>h0.getD j .dead)→(∀ id,h0.length≤id→ρ id=none)→
  (∀ id v,C.ρ0 id=some v→ρ id=some v)→Wd E.gl C w U→Calls E.P k vals.toArray w (K0 E C Q)

theorem O0.calls {k:FuncId} {args:List AV} {h0:List AO} {Q:AV→List AO→Prop} (h:O0 E k args h0 Q):Hj E k args h0 Q:=by
 intro C w U ρ vals h1 h2 h3 h4 h5 h6
 obtain ⟨f,c,hf,hb,_,hl,hR⟩:=h
 exact uC hf hb hl (hR C h1) h2 h3 h4 h5 h6

theorem fA {P:Program} {gl:Nat→AV} {k:FuncId} {kinds:List (Option Sh)} {G:cz kinds} (hfn:∃ fn,E.P.funcs[k]?=some fn∧(fn.name == "runtime.NumGoroutine")=false∧fn.body.isNone=false)
    (hG:∀ x h0 res,(G x h0).val=some res→Hj E k (gm kinds x) h0 (fun r h=>(r,h)=res)) (qp:E.P=P:=by rfl) (qg:E.gl=gl:=by rfl):lL P gl k (zS kinds G):=by
  subst qp qg
  refine ⟨hfn,?_⟩
  intro w U ρ hp n args vals f fp h hr hub hgl hfp hin hcl hn
  unfold zS at h
  split at h
  · rename_i ps hps
    simp only at h
    generalize hπ:iv hp 400 (AV.idsL (eM ps)) []=π at h
    generalize hz:dV kinds args=z at h
    split at h
    · rename_i hcond
      simp only [aG,cL,zW,Bool.not_eq_true',List.contains_eq_mem,decide_eq_false_iff_not] at hcond
      obtain ⟨⟨hclosed,hzz⟩,hππ⟩:=hcond
      split at h
      rotate_left
      · simp at h
      rename_i xs hxs
      have hxa:=rx kinds args ps xs hps hxs
      simp only [Tr.val_bind,eS] at h
      obtain ⟨⟨r,h'⟩,hGv,h⟩:=h
      unfold H3 at h
      split at h
      · rename_i hle
        simp only [Tr.val_ok,aq] at h
        simp only [iM,aG,cL,ui] at hclosed
        obtain ⟨⟨⟨hc1,hc2⟩,hc3⟩,_⟩:=hclosed
        have hnd:=wl hc3
        have hzfp:∀ i∈z,i∈fp:=fun i hi=>hin i (mz kinds args i (by rw [hz]; exact hi))
        generalize hU1:(fun b=>U b∧¬ ∃ j∈z,zO ρ j (hp j) b)=U1
        have hU1sub:∀ b,U1 b→U b:=by intro b h; rw [← hU1] at h; exact h.1
        have hzU:∀ j∈z,∀ b,zO ρ j (hp j) b→¬ U1 b:=fun j hj b ho h=>by rw [← hU1] at h; exact h.2 ⟨j,hj,ho⟩
        have hpk:=gU (w:=w) (U:=U) (ρ:=ρ) (U':=U1) (ρ':=fun j=>(π[j]?).bind ρ) (hp:=hp) (f:=fun i=>π.idxOf i) hU1sub kinds args vals ps hps hr
          (fun id hid=>⟨hfp.ob id (hzfp id (by rw [← hz]; exact hid)),hzU id (by rw [← hz]; exact hid)⟩)
          (fun id hid=>by
            have hlt:π.idxOf id < π.length:=List.idxOf_lt_length_iff.2 (hc1 id hid)
            rw [zI hlt,List.getElem_idxOf hlt]
            rfl)
        obtain ⟨hargs,hobjin⟩:=hpk
        rw [← hxa] at hargs
        have hπfp:∀ i∈π,i∈fp:=by
          rw [← hπ]
          exact ot hcl 400 _ [] (fun i hi=>hin i (hobjin i hi)) (by simp)
        have hat:∀ id∈π,((π[π.idxOf id]?).bind ρ)=ρ id:=by
          intro id hid
          have hlt:π.idxOf id < π.length:=List.idxOf_lt_length_iff.2 hid
          rw [zI hlt,List.getElem_idxOf hlt]
          rfl
        let C:cr:={ w0:=w,U0:=U1,B0:=fun b=>∃ i∈π,zO ρ i (hp i) b,ρ0:=fun j=>(π[j]?).bind ρ }
        have hownU1:∀ i∈π,∀ b,zO ρ i (hp i) b→U1 b∧b < w.heap.size:=by
          intro i hi b ho
          have:=(hfp.ob i (hπfp i hi)).inU ho
          refine ⟨?_,this.2⟩
          rw [← hU1]
          refine ⟨this.1,fun ⟨j,hj,ho'⟩=>?_⟩
          have e:=hfp.inj i (hπfp i hi) j (hzfp j hj) b ho ho'
          subst e
          exact (hzz i hj).2 hi
        have hobj1:∀ i∈π,bb w U1 ρ i (hp i):=fun i hi=>
          (hfp.ob i (hπfp i hi)).mono (aU _) (fun _ _ _=>rfl) (fun b _ h=>hU1sub b h) (fun _ _ h=>h) (fun b ho=>⟨rfl,(hownU1 i hi b ho).1⟩)
        have hheap:∀ j (hj:j < π.length),(π.map fun i=>(hp i).ren fun i=>π.idxOf i).getD j .dead=(hp π[j]).ren fun i=>π.idxOf i:=by
          intro j hj
          rw [aD,di,zI hj]
          rfl
        have hheap':∀ j,π.length≤j→(π.map fun i=>(hp i).ren fun i=>π.idxOf i).getD j .dead=.dead:=by
          intro j hj
          rw [aD,dh (by simpa using hj)]
          rfl
        have hρl:∀ j (hj:j < π.length),((π[j]?).bind ρ)=ρ π[j]:=fun j hj=>by rw [zI hj]; rfl
        have hown0:∀ j b,zO (fun j=>(π[j]?).bind ρ) j ((π.map fun i=>(hp i).ren fun i=>π.idxOf i).getD j .dead) b→∃ hj:j < π.length,zO ρ π[j] (hp π[j]) b:=by
          rintro j b ⟨ho,v,hv,hb⟩
          by_cases hlt:j < π.length
          · refine ⟨hlt,?_,v,by rw [← hρl j hlt]; exact hv,hb⟩
            rw [hheap j hlt,wt] at ho
            exact ho
          · rw [hheap' j (by omega)] at ho
            simp [AO.owns] at ho
        have hH0:gI C w U1 (fun j=>(π[j]?).bind ρ) (fun j=>(π.map fun i=>(hp i).ren fun i=>π.idxOf i).getD j .dead):=by
          refine ⟨fun j=>?_,fun j1 j2 b o1 o2=>?_,fun j b o=>?_⟩
          · by_cases hlt:j < π.length
            · rw [hheap j hlt]
              exact (hobj1 π[j] (ce hlt)).ren (hρl j hlt) (fun i hi=>hat i (hc2 π[j] (ce hlt) i hi))
            · rw [hheap' j (by omega)]; trivial
          · obtain ⟨l1,q1⟩:=hown0 j1 b o1
            obtain ⟨l2,q2⟩:=hown0 j2 b o2
            exact (List.getElem_inj hnd).1 (hfp.inj _ (hπfp _ (ce l1)) _ (hπfp _ (ce l2)) b q1 q2)
          · obtain ⟨l1,q1⟩:=hown0 j b o
            exact .inl ⟨π[j],ce l1,q1⟩
        have hW0:Wd E.gl C w U1:=⟨jI.refl w,fun _ _ _=>rfl,fun b hb=>hub b (hU1sub b hb),fun _ _ h=>h,fun _ _ h _=>h,fun g=>(hgl g).weak hU1sub⟩
        have hcalls:=hG _ _ _ hGv C w U1 _ vals (fun id hid=>by
            simp only [yE] at hid
            show (π[id]?).bind ρ=none
            rw [dh hid]; rfl) hargs hH0 (fun id hid=>by
            simp only [yE] at hid
            rw [dh hid]; rfl) (fun _ _ h=>h) hW0
        have hwrfp:∀ id o,(id,o)∈f.wr→id∈fp:=by
          intro id o hio
          rw [← h] at hio
          simp only [aZ,ff] at hio
          rcases hio with ⟨p,hp',he⟩ | hio
          · have:p.1∈π:=(List.of_mem_zip hp').1
            cases he
            exact hπfp _ this
          · split at hio
            · simp at hio
            · exact hzfp id (cm hio).1
        refine ⟨hcalls.mono ?_,hwrfp⟩
        rintro e w' ⟨v,r',h'',U',ρ',rfl,hq,hrv,hH',hnew',hr0',hW'⟩
        cases hq
        by_cases hbor:(nB r&&π.isEmpty&&h'.isEmpty)=true
        ·
          rw [if_pos hbor] at h
          simp only [aG,List.isEmpty_iff] at hbor
          obtain ⟨⟨hsc,rfl⟩,rfl⟩:=hbor
          simp at h
          subst h
          refine ⟨v,U,ρ,rfl,⟨hW'.ext,xu hsc hrv,by simp,by simp,fun _ _=>rfl,fun _ _ h=>h,fun b hb _=>hW'.same b hb (by simp [C]),fun b hb=>ls (hub b hb) hW'.ext.sz,fun _ _ h=>h,fun _ _ h _=>h,by simp,by simp⟩⟩
        · rw [if_neg hbor] at h
          let ρf:Nat→Option Value:=fun id=>if n≤id∧id < n+(h'.length - π.length) then ρ' (π.length+(id - n)) else ρ id
          have hlive:∀ j (hj:j < π.length),ρ' j=ρ π[j]:=by
            intro j hj
            obtain ⟨x,hx⟩:=Nc (hππ π[j] (ce hj)).2 (hfp.ob π[j] (hπfp _ (ce hj)))
            rw [hx]
            exact hr0' j x (by show (π[j]?).bind ρ=some x; rw [hρl j hj]; exact hx)
          have hg:∀ j,j < h'.length→ρf (kV π n j)=ρ' j:=by
            intro j hj
            unfold kV
            split
            · rename_i hlt
              rw [aD,zI hlt]
              show (if n≤π[j]∧π[j] < n+(h'.length - π.length) then ρ' (π.length+(π[j] - n)) else ρ π[j])=ρ' j
              rw [if_neg (by have:=(hππ π[j] (ce hlt)).1; omega),hlive j hlt]
            · rename_i hge
              show (if n≤n+(j - π.length)∧n+(j - π.length) < n+(h'.length - π.length) then ρ' (π.length+(n+(j - π.length) - n)) else ρ (n+(j - π.length)))=ρ' j
              rw [if_pos (by omega),show π.length+(n+(j - π.length) - n)=j by omega]
          have hnwl:f.nw.length=h'.length - π.length:=by rw [← h]; simp
          have hrhon:∀ id x,ρ id=some x→ρf id=some x:=by
            intro id x hx
            show (if n≤id∧id < n+(h'.length - π.length) then ρ' (π.length+(id - n)) else ρ id)=some x
            rw [if_neg]
            · exact hx
            · rintro ⟨h1,h2⟩
              have:=hn (id - n) (by omega)
              rw [show n+(id - n)=id by omega,hx] at this
              cases this
          have hg':∀ j x,ρ' j=some x→ρf (kV π n j)=some x:=by
            intro j x hx
            by_cases hj:j < h'.length
            · rw [hg j hj]; exact hx
            · rw [hnew' j (by omega)] at hx; cases hx
          have hloc:∀ j (hj:j < h'.length),bb w' U' ρf (kV π n j) (h'[j].ren (kV π n)):=by
            intro j hj
            have:=hH'.ob j
            rw [show h'.getD j .dead=h'[j] by simp [hj]] at this
            exact this.ren' (fun x hx=>hg' j x hx) (fun i _ x hx=>hg' i x hx)
          have hwr:∀ id o,(id,o)∈f.wr→(∃ j,∃ hj:j < h'.length,j < π.length∧id=kV π n j∧o=h'[j].ren (kV π n))∨(id∈z∧o=vU (hp id)):=by
            intro id o hio
            rw [← h] at hio
            simp only [aZ,ff] at hio
            rcases hio with ⟨p,hp',he⟩ | hio
            · obtain ⟨j,hj,hjp⟩:=Dm hp'
              have hj':j < π.length∧j < h'.length:=by rw [List.length_zip] at hj; omega
              rw [List.getElem_zip] at hjp
              subst hjp
              cases he
              refine .inl ⟨j,hj'.2,hj'.1,?_,rfl⟩
              simp [kV,hj'.1]
            · exact .inr (cm hio)
          have hnw:∀ (k:Nat) o,f.nw[k]?=some o→∃ hj:π.length+k < h'.length,n+k=kV π n (π.length+k)∧o=h'[π.length+k].ren (kV π n):=by
            intro k o hk
            rw [← h] at hk
            simp only [di,nP,dc] at hk
            obtain ⟨a,ha,rfl⟩:=hk
            obtain ⟨hj,ha⟩:=bP.1 ha
            exact ⟨hj,by unfold kV; rw [if_neg (by omega)]; omega,by rw [ha]⟩
          have hfz0:∀ (id:Nat),(vU (hp id)).owns=true→lN (hp id)=true→False:=by
            intro id h1 h2
            cases hh:hp id <;> rw [hh] at h1 h2 <;> simp [vU,AO.owns,lN] at h1 h2
          have key:∀ id o b,((id,o)∈f.wr∨(n≤id∧f.nw[id - n]?=some o))→zO ρf id o b→∃ j,id=kV π n j∧zO ρ' j (h'.getD j .dead) b:=by
            intro id o b hio ho
            have fin:∀ j (hj:j < h'.length),id=kV π n j→o=h'[j].ren (kV π n)→∃ j,id=kV π n j∧zO ρ' j (h'.getD j .dead) b:=by
              rintro j hj rfl rfl
              refine ⟨j,rfl,?_⟩
              obtain ⟨h1,x,h2,h3⟩:=ho
              rw [wt] at h1
              rw [hg j hj] at h2
              refine ⟨?_,x,h2,h3⟩
              rw [show h'.getD j .dead=h'[j] by simp [hj]]
              exact h1
            rcases hio with hio | ⟨hge,hio⟩
            · rcases hwr id o hio with ⟨j,hj,_,h1,h2⟩ | ⟨h1,rfl⟩
              · exact fin j hj h1 h2
              · exact (hfz0 id ho.1 (hzz id h1).1).elim
            · obtain ⟨hj,h1,h2⟩:=hnw _ o hio
              exact fin _ hj (by rw [← h1]; omega) h2
          have hB0:∀ b,C.B0 b→∃ id o,(id,o)∈f.wr∧zO ρ id (hp id) b:=by
            rintro b ⟨i,hi,ho⟩
            obtain ⟨j,hj,rfl⟩:=Dm hi
            refine ⟨π[j],h'[j].ren (kV π n),?_,ho⟩
            rw [← h]
            simp only [aZ,ff]
            refine .inl ⟨(π[j],h'[j]),?_,rfl⟩
            have:(π.zip h')[j]?=some (π[j],h'[j]):=by simp [List.getElem?_zip_eq_some,hj,ls hj hle]
            exact ig this
          have hzwr:∀ i∈z,(i,vU (hp i))∈f.wr:=by
            intro i hi
            rw [← h]
            simp only [aZ]
            exact .inr (nc hi)
          refine ⟨v,U',ρf,rfl,⟨hW'.ext,?_,?_,?_,?_,hrhon,?_,hW'.ub,?_,?_,?_,?_⟩⟩
          · rw [← h]; exact hrv.ren' (fun i _ x hx=>hg' i x hx)
          · intro id o hio
            rcases hwr id o hio with ⟨j,hj,_,rfl,rfl⟩ | ⟨hiz,rfl⟩
            · exact hloc j hj
            · refine (nb (hfp.ob id (hzfp id hiz)) (hzz id hiz).1 hU1sub (hzU id hiz)).mono hW'.ext.sz (fun b hb hnu=>?_) hW'.u1 hrhon (fun b ho=>(hfz0 id ho.1 (hzz id hiz).1).elim)
              exact hW'.same b hb (fun ⟨i,hi,ho⟩=>hnu (hownU1 i hi b ho).1)
          · intro k o hk
            obtain ⟨hj,h1,rfl⟩:=hnw k o hk
            rw [h1]; exact hloc _ hj
          · intro id hid
            show (if n≤id∧id < n+(h'.length - π.length) then ρ' (π.length+(id - n)) else ρ id)=ρ id
            rw [hnwl] at hid
            rw [if_neg (by omega)]
          · intro b hb hno
            refine hW'.same b hb (fun hB=>?_)
            obtain ⟨id,o,h1,h2⟩:=hB0 b hB
            exact hno id o h1 h2
          · intro b hb hu
            exact hU1sub b (hW'.u1 b hb hu)
          · intro b hb hu hno
            refine hW'.u2 b hb ?_ (fun hB=>?_)
            · show U1 b
              rw [← hU1]
              exact ⟨hu,fun ⟨j,hj,ho⟩=>hno j _ (hzwr j hj) ho⟩
            · obtain ⟨id,o,h1,h2⟩:=hB0 b hB
              exact hno id o h1 h2
          · intro id o b hio ho
            obtain ⟨j,_,hj⟩:=key id o b hio ho
            rcases hH'.blk j b hj with hB | hB
            · exact .inr (hB0 b hB)
            · exact .inl hB
          · intro id1 o1 id2 o2 b h1 h2 ho1 ho2
            obtain ⟨j1,e1,q1⟩:=key id1 o1 b h1 ho1
            obtain ⟨j2,e2,q2⟩:=key id2 o2 b h2 ho2
            rw [e1,e2,hH'.inj j1 j2 b q1 q2]
      · simp at h
    · simp at h
  · simp at h

theorem KY {P:Program} {gl:Nat→AV} {k:FuncId} {kinds:List (Option Sh)} {G:cz kinds} (hfn:∃ fn,E.P.funcs[k]?=some fn∧(fn.name == "runtime.NumGoroutine")=false∧fn.body.isNone=false)
  (hG:∀ x h0 res,(G x h0).val=some res→O0 E k (gm kinds x) h0 (fun r h=>(r,h)=res)) (qp:E.P=P:=by rfl) (qg:E.gl=gl:=by rfl):lL P gl k (zS kinds G):=by
 subst qp qg
 exact fA hfn fun x h0 res hx=>(hG x h0 res hx).calls

end
end Cad
