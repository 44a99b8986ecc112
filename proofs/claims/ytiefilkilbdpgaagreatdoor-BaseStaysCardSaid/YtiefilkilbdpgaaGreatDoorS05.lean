/- What is kept at a loop's head says no more than what was there. Functions: from a run to a contract. A function's contract, lifted to whatever calls it. -/
import Derived.Test.YtiefilkilbdpgaaGreatDoorS04
namespace Cad
open Go
section
variable {E:bt} {C:cH} {a:Act} {w:World} {U:Nat→Prop} {ρ:Nat→Option Value}

theorem Dv (keep:List Nat):∀ (l:List AV) (i j:Nat),(xL keep i l)[j]?=(l[j]?).map fun v=>if keep.contains (i+j) then v else .any
 | [],_,_=>by simp [xL]
 | v::r,i,0=>by simp [xL]
 | v::r,i,j+1=>by
  simp only [xL,List.getElem?_cons_succ]
  rw [Dv keep r (i+1) j,show i+1+j=i+(j+1) by omega]

theorem Dw (keep:List Nat):∀ (l:List AV) (i:Nat),(xL keep i l).length=l.length
 | [],_=>rfl
 | v::r,i=>by simp [xL,Dw keep r]

theorem Qa {st:St} (keep:List Nat) (h:Cn C st a w U ρ):Cn C { st with tmps:=xL keep 0 st.tmps } a w U ρ:=by
 refine ⟨⟨by rw [Dw]; exact h.tm.len,fun j c v hc hv=>?_⟩,h.hp,h.new,h.df,h.r0⟩
 rw [Dv] at hc
 simp only [dI] at hc
 obtain ⟨c',hc',rfl⟩:=hc
 split
 ·exact h.tm.rv j c' v hc' hv
 ·exact .any v

theorem HE {hp hp':Nat→AO} {n:Nat} {e:Sh} {x:Option Addr} (hH:gY C w U ρ hp) (hn:ρ n=none) (hnew:hp' n=.vec e [])
  (hold:∀ id,id≠n→be w U (j4 ρ n (.slice x 0 0)) id (hp' id)∧∀ b,zO (j4 ρ n (.slice x 0 0)) id (hp' id) b→zO ρ id (hp id) b):gY C w U (j4 ρ n (.slice x 0 0)) hp':=by
 have none:∀ b,¬ zO (j4 ρ n (.slice x 0 0)) n (hp' n) b:=by
  rintro b ⟨_,v,hv,hb⟩
  simp [j4] at hv; subst hv
  cases x <;> simp [c9] at hb
 refine ⟨fun id=>?_,fun id1 id2 b h1 h2=>?_,fun id b h=>?_⟩
 ·by_cases hid:id=n
  ·subst hid; rw [hnew]
   exact ⟨x,0,by simp [j4],by simp,.inl ⟨rfl,rfl⟩⟩
  ·exact (hold id hid).1
 ·by_cases e1:id1=n
  ·subst e1; exact (none b h1).elim
  ·by_cases e2:id2=n
   ·subst e2; exact (none b h2).elim
   ·exact hH.inj id1 id2 b ((hold id1 e1).2 b h1) ((hold id2 e2).2 b h2)
 ·by_cases e1:id=n
  ·subst e1; exact (none b h).elim
  ·exact hH.blk id b ((hold id e1).2 b h)

theorem wi {n id:Nat} {v:Value} {o:AO} {b:Nat} (hid:id≠n) (h:zO (j4 ρ n v) id o b):zO ρ id o b:=by
 obtain ⟨h1,x,hx,hb⟩:=h
 simp only [j4,if_neg hid] at hx
 exact ⟨h1,x,hx,hb⟩

theorem M4 {st:St} (p:Nat×Option Nat×Sh) (h:Cn C st a w U ρ):∃ ρ',Cn C (p8 st p) a w U ρ':=by
 have hn:ρ st.heap.length=none:=h.new _ (bd _)
 have mono:∀ (x:Option Addr) {c:AV} {v:Value},Rv w U ρ c v→Rv w U (j4 ρ st.heap.length (.slice x 0 0)) c v:=fun x _ _ hr=>hr.mono (bd _) (fun _ _ _=>rfl) (fun _ _ h=>h) (du hn)
 have omono:∀ (x:Option Addr) (id:Nat),be w U (j4 ρ st.heap.length (.slice x 0 0)) id (st.hp id):=fun x id=>
  (h.hp.ob id).mono (bd _) (fun _ _ _=>rfl) (fun _ _ h=>h) (du hn) (fun b ho=>⟨rfl,((h.hp.ob id).inU ho).1⟩)
 have hpapp:∀ (hs:List AO) (o:AO),hs.length=st.heap.length→(hs++[o]).getD st.heap.length .dead=o:=by
  intro hs o hl
  rw [aJ,lc (by omega),hl]
  simp
 have hpold:∀ (hs:List AO) (o:AO) (id:Nat),hs.length=st.heap.length→id≠st.heap.length→(hs++[o]).getD id .dead=hs.getD id .dead:=by
  intro hs o id hl hid
  simp only [aJ]
  by_cases hlt:id < hs.length
  ·rw [j6 hlt]
  ·rw [dd (by simp; omega),dd (by omega)]
 have newOk:∀ (x:Option Addr) (hs:List AO) (o:AO),hs.length=st.heap.length→∀ id,(hs++[o]).length≤id→j4 ρ st.heap.length (.slice x 0 0) id=none:=by
  intro x hs o hl id hid
  simp at hid
  simp only [j4]
  rw [if_neg (by omega)]
  exact h.new id (by omega)
 obtain ⟨s,c,e⟩:=p
 cases c with
 | none=>
  simp only [p8]
  split
  ·rename_i hs
   have hlt:s < st.tmps.length:=by
    apply xv
    intro hge
    rw [aJ,dd (by omega)] at hs
    cases hs
   have hs':st.tmps[s]?=some .nils:=by
    rw [aJ,zJ hlt] at hs
    rw [zJ hlt]; simpa using hs
   have hlt':s < a.tmps.toList.length:=by rw [← h.tm.len]; exact hlt
   have hv:=h.tm.rv s _ _ hs' (zJ hlt')
   generalize hx:a.tmps.toList[s]=x at hv
   cases hv with
   | nils ad=>
   refine ⟨j4 ρ st.heap.length (.slice ad 0 0),⟨by simp [h.tm.len],fun j c v hc hv=>?_⟩,HE h.hp hn (hpapp _ _ rfl) (fun id hid=>?_),newOk ad _ _ rfl,h.df,fun id v hr=>du hn id v (h.r0 id v hr)⟩
   ·rw [jJ] at hc
    split at hc
    ·rename_i hsj
     subst hsj
     cases hc
     rw [zJ hlt',hx] at hv
     cases hv
     exact .vec _ _ (by simp [j4]) rfl
    ·exact mono ad (h.tm.rv j c v hc hv)
   ·have:({ tmps:=st.tmps.set s (.vec st.heap.length),heap:=st.heap++[.vec e []] }:St).hp id=st.hp id:=hpold st.heap _ id rfl hid
    rw [this]
    exact ⟨omono ad id,fun b hb=>wi hid hb⟩
  ·exact ⟨ρ,h⟩
 | some c=>
  simp only [p8]
  split
  ·rename_i id hsl
   split
   ·rename_i cs hcs
    split
    ·rename_i hnil
     have ho:=h.hp.ob id
     rw [hcs] at ho
     obtain ⟨b,T,vals,h1,h2,h3,h4,h5⟩:=ho
     have hclt:c < cs.length:=by
      apply xv
      intro hge
      rw [aJ,dd (by omega)] at hnil
      cases hnil
     have hc':cs[c]?=some .nils:=by
      rw [aJ,zJ hclt] at hnil
      rw [zJ hclt]; simpa using hnil
     have hvlt:c < vals.toList.length:=by rw [← h4.len]; exact hclt
     have hv:=h4.rv c _ _ hc' (zJ hvlt)
     generalize hx:vals.toList[c]=x at hv
     cases hv with
     | nils ad=>
     have hidlt:id < st.heap.length:=by
      apply xv
      intro hge
      have:=h.new id (by omega)
      rw [h1] at this; cases this
     have hne:id≠st.heap.length:=by omega
     refine ⟨j4 ρ st.heap.length (.slice ad 0 0),⟨h.tm.len,fun j cc v hc hv=>mono ad (h.tm.rv j cc v hc hv)⟩,HE h.hp hn (hpapp _ _ (by simp)) (fun id' hid'=>?_),newOk ad _ _ (by simp),h.df,fun i v hr=>du hn i v (h.r0 i v hr)⟩
     have e0:({ tmps:=st.tmps,heap:=st.heap.set id (.box (cs.set c (.vec st.heap.length)))++[.vec e []] }:St).hp id'=(st.heap.set id (.box (cs.set c (.vec st.heap.length)))).getD id' .dead:=hpold _ _ id' (by simp) hid'
     rw [e0]
     by_cases hii:id=id'
     ·subst hii
      have e1:(st.heap.set id (.box (cs.set c (.vec st.heap.length)))).getD id .dead=.box (cs.set c (.vec st.heap.length)):=by
       simp [lP hidlt]
      rw [e1]
      refine ⟨⟨b,T,vals,du hn _ _ h1,h2,h3,⟨by simp [h4.len],fun j cc v hc hv=>?_⟩,h5⟩,fun b' hb=>?_⟩
      ·rw [jJ] at hc
       split at hc
       ·rename_i hcj
        subst hcj
        cases hc
        rw [zJ hvlt,hx] at hv
        cases hv
        exact .vec _ _ (by simp [j4]) rfl
       ·exact mono ad (h4.rv j cc v hc hv)
      ·obtain ⟨_,v,hv,hbb⟩:=wi hid' hb
       exact ⟨by rw [hcs]; rfl,v,hv,hbb⟩
     ·have e1:(st.heap.set id (.box (cs.set c (.vec st.heap.length)))).getD id' .dead=st.hp id':=by
       simp [St.hp,pj hii]
      rw [e1]
      exact ⟨omono ad id',fun b hb=>wi hid' hb⟩
    ·exact ⟨ρ,h⟩
   ·exact ⟨ρ,h⟩
  ·exact ⟨ρ,h⟩

theorem wn:∀ (ps:List (Nat×Option Nat×Sh)) {st:St} {ρ:Nat→Option Value},Cn C st a w U ρ→∃ ρ',Cn C (ps.foldl p8 st) a w U ρ'
 | [],_,ρ,h=>⟨ρ,h⟩
 | p::ps,st,ρ,h=>by
  obtain ⟨ρ',h'⟩:=M4 p h
  exact wn ps h'

theorem NO {gl:Nat→AV} {st:St} (p:Nat×Nat) (h:Cn C st a w U ρ) (hW:Wd gl C w U):∃ U',Cn C (An st p) a w U' ρ∧Wd gl C w U':=by
 obtain ⟨s,c⟩:=p
 simp only [An]
 split
 ·rename_i id hsl
  split
  ·rename_i cs hcs
   split
   ·rename_i k hck
    split
    ·rename_i e l hfz
     have hvf:kG (st.hp k)=true:=by cases hk:st.hp k <;> rw [hk] at hfz <;> simp [sW] at hfz <;> rfl
     have hef:=Ef.frz (w:=w) (U:=U) (ρ:=ρ) (n:=st.heap.length) (hp:=st.hp) (ids:=[k]) (r:=.any) (v:=undef) hW.ub (by simpa using hvf) (fun j _=>h.hp.ob j) (.any _)
     generalize (fun b=>U b∧¬ ∃ j∈[k],zO ρ j (st.hp j) b)=U' at hef
     have hwr:ed st.hp [k]=[(k,.frz e l)]:=by simp [ed,hfz]
     rw [hwr] at hef
     obtain ⟨hW',hH',mono⟩:=pp (hp':=fun id=>if id=k then .frz e l else st.hp id) hW h.hp hef (fun _ _ _=>rfl)
      (fun i hi=>by
       obtain ⟨o,ho⟩:=hi
       simp at ho
       exact ⟨.frz e l,by simp [ho.1],by simp [ho.1]⟩)
      (fun j o hj=>by simp at hj)
      (fun i hno _=>by
       have:i≠k:=fun e'=>hno ⟨.frz e l,by simp [e']⟩
       simp [this])
     have hik:id≠k:=by
      rintro rfl
      rw [hcs] at hvf
      cases hvf
     have ok:=hH'.ob k
     simp only [if_true] at ok
     obtain ⟨vk,hvk,hrk⟩:=ok
     have oi:=hH'.ob id
     simp only [if_neg hik,hcs] at oi
     obtain ⟨b,T,vals,h1,h2,h3,h4,h5⟩:=oi
     have hil:id < st.heap.length:=by
      apply xv
      intro hge
      have:=h.new id (by omega)
      rw [h1] at this; cases this
     have hkl:k < st.heap.length:=by
      apply xv
      intro hge
      have:=h.new k (by omega)
      rw [hvk] at this; cases this
     have hclt:c < cs.length:=by
      apply xv
      intro hge
      rw [aJ,dd (by omega)] at hck
      cases hck
     have hc':cs[c]?=some (.vec k):=by
      rw [aJ,zJ hclt] at hck
      rw [zJ hclt]; simpa using hck
     have hhp:∀ i,({ tmps:=st.tmps,heap:=(st.heap.set k (.frz e l)).set id (.box (cs.set c (.sl e l))) }:St).hp i=if i=id then .box (cs.set c (.sl e l)) else if i=k then .frz e l else st.hp i:=by
      intro i
      simp only [St.hp,aJ]
      by_cases hi:i=id
      ·subst hi
       rw [lP (by simpa using hil),if_pos rfl]; rfl
      ·rw [pj (fun e'=>hi e'.symm),if_neg hi]
       by_cases hk:i=k
       ·subst hk
        rw [lP hkl,if_pos rfl]; rfl
       ·rw [pj (fun e'=>hk e'.symm),if_neg hk]
     have hown:∀ i b',zO ρ i (if i=id then .box (cs.set c (.sl e l)) else if i=k then .frz e l else st.hp i) b'→zO ρ i (if i=k then AO.frz e l else st.hp i) b':=by
      intro i b' ho
      by_cases hi:i=id
      ·subst hi
       rw [if_neg hik,hcs]
       obtain ⟨_,v,hv,hb⟩:=ho
       exact ⟨rfl,v,hv,hb⟩
      ·rwa [if_neg hi] at ho
     refine ⟨U',⟨⟨h.tm.len,fun j cc v hc hv=>mono (h.tm.rv j cc v hc hv)⟩,⟨fun i=>?_,fun i1 i2 b' o1 o2=>?_,fun i b' o=>?_⟩,fun i hi=>h.new i (by simpa using hi),h.df,h.r0⟩,hW'⟩
     ·rw [hhp]
      by_cases hi:i=id
      ·subst hi
       rw [if_pos rfl]
       refine ⟨b,T,vals,h1,h2,h3,⟨by simp [h4.len],fun j cc v hc hv=>?_⟩,h5⟩
       rw [jJ] at hc
       split at hc
       ·rename_i hcj
        subst hcj
        cases hc
        have:=h4.rv c _ v hc' hv
        cases this with
        | vec _ _ hr _=>
        rw [hvk] at hr
        cases hr
        exact hrk
       ·exact h4.rv j cc v hc hv
      ·rw [if_neg hi]
       exact hH'.ob i
     ·rw [hhp] at o1 o2
      exact hH'.inj i1 i2 b' (hown _ _ o1) (hown _ _ o2)
     ·rw [hhp] at o
      exact hH'.blk i b' (hown _ _ o)
    ·exact ⟨U,h,hW⟩
   ·exact ⟨U,h,hW⟩
  ·exact ⟨U,h,hW⟩
 ·exact ⟨U,h,hW⟩

theorem D4 {gl:Nat→AV}:∀ (ps:List (Nat×Nat)) {st:St} {U:Nat→Prop},Cn C st a w U ρ→Wd gl C w U→∃ U',Cn C (ps.foldl An st) a w U' ρ∧Wd gl C w U'
 | [],_,U,h,hW=>⟨U,h,hW⟩
 | p::ps,st,U,h,hW=>by
  obtain ⟨U',h',hW'⟩:=NO p h hW
  exact D4 ps h' hW'

theorem Lh {gl:Nat→AV} {st:St} (s:Nat) (h:Cn C st a w U ρ) (hW:Wd gl C w U):∃ U',Cn C (Dh st s) a w U' ρ∧Wd gl C w U':=by
 simp only [Dh]
 split
 ·rename_i id hsl
  split
  ·rename_i e l i m hid
   split
   ·rename_i e' l' hm
    split
    ·rename_i he
     subst he
     have hef:=Ef.frz (w:=w) (U:=U) (ρ:=ρ) (n:=st.heap.length) (hp:=st.hp) (ids:=[m]) (r:=.any) (v:=undef) hW.ub (by simp [hm,kG]) (fun j _=>h.hp.ob j) (.any _)
     generalize (fun b=>U b∧¬ ∃ j∈[m],zO ρ j (st.hp j) b)=U' at hef
     have hwr:ed st.hp [m]=[(m,.frz e' l')]:=by simp [ed,hm,sW]
     rw [hwr] at hef
     obtain ⟨hW',hH',mono⟩:=pp (hp':=fun id=>if id=m then .frz e' l' else st.hp id) hW h.hp hef (fun _ _ _=>rfl)
      (fun i hi=>by
       obtain ⟨o,ho⟩:=hi
       simp at ho
       exact ⟨.frz e' l',by simp [ho.1],by simp [ho.1]⟩)
      (fun j o hj=>by simp at hj)
      (fun i hno _=>by
       have:i≠m:=fun e'=>hno ⟨_,by rw [e']; exact ud⟩
       simp [this])
     have hik:id≠m:=by
      rintro rfl
      rw [hid] at hm
      cases hm
     have ok:=hH'.ob m
     simp only [if_true] at ok
     obtain ⟨vk,hvk,hrk⟩:=ok
     have oi:=hH'.ob id
     simp only [if_neg hik,hid] at oi
     obtain ⟨b,T,arr,c,h1,h2,h3,h4,h5,h6,h7,h8,x,h9,h10⟩:=oi
     have hxk:x=vk:=by
      cases h10 with
      | vec _ _ hv _=>rw [hvk] at hv; cases hv; rfl
     subst hxk
     have hil:id < st.heap.length:=by
      apply xv
      intro hge
      have:=h.new id (by omega)
      rw [h1] at this; cases this
     have hkl:m < st.heap.length:=by
      apply xv
      intro hge
      have:=h.new m (by omega)
      rw [hvk] at this; cases this
     have hhp:∀ j,({ tmps:=st.tmps,heap:=(st.heap.set m (.frz e' l')).set id (.vec (.sl e') (l.set i l')) }:St).hp j=if j=id then .vec (.sl e') (l.set i l') else if j=m then .frz e' l' else st.hp j:=by
      intro j
      simp only [St.hp,aJ]
      by_cases hi:j=id
      ·subst hi
       rw [lP (by simpa using hil),if_pos rfl]; rfl
      ·rw [pj (fun e'=>hi e'.symm),if_neg hi]
       by_cases hk:j=m
       ·subst hk
        rw [lP hkl,if_pos rfl]; rfl
       ·rw [pj (fun e'=>hk e'.symm),if_neg hk]
     have hown:∀ j b',zO ρ j (if j=id then .vec (.sl e') (l.set i l') else if j=m then .frz e' l' else st.hp j) b'→zO ρ j (if j=m then AO.frz e' l' else st.hp j) b':=by
      intro j b' ho
      by_cases hi:j=id
      ·subst hi
       rw [if_neg hik,hid]
       obtain ⟨_,v,hv,hb⟩:=ho
       exact ⟨rfl,v,hv,hb⟩
      ·rwa [if_neg hi] at ho
     refine ⟨U',⟨⟨h.tm.len,fun j cc v hc hv=>mono (h.tm.rv j cc v hc hv)⟩,⟨fun j=>?_,fun i1 i2 b' o1 o2=>?_,fun j b' o=>?_⟩,fun j hj=>h.new j (by simpa using hj),h.df,h.r0⟩,hW'⟩
     ·rw [hhp]
      by_cases hi:j=id
      ·subst hi
       rw [if_pos rfl]
       refine ⟨_,c,by rw [h1]; simp,by simpa using h2,.inr ⟨b,T,arr,rfl,by omega,h4,h5,by rw [h6]; simp [Sh.size],by simpa using h7,fun k hk q cc hcc=>?_⟩⟩
       have hq:q=0:=by have:=(bM.1 hcc).1; simpa [zn] using this
       subst hq
       simp only [zn,List.getElem?_cons_zero,ao] at hcc
       subst hcc
       simp only [jM] at hk
       simp only [Sh.size,Nat.mul_one,oh]
       by_cases hki:i=k
       ·subst hki
        refine ⟨x,h9,?_⟩
        simpa using hrk
       ·obtain ⟨v,e1,e2⟩:=h8 k hk (fun e'=>hki e'.symm)
        refine ⟨v,e1,?_⟩
        rw [List.getElem_set_ne hki]
        exact e2
      ·rw [if_neg hi]
       exact hH'.ob j
     ·rw [hhp] at o1 o2
      exact hH'.inj i1 i2 b' (hown _ _ o1) (hown _ _ o2)
     ·rw [hhp] at o
      exact hH'.blk j b' (hown _ _ o)
    ·exact ⟨U,h,hW⟩
   ·exact ⟨U,h,hW⟩
  ·exact ⟨U,h,hW⟩
 ·exact ⟨U,h,hW⟩

theorem Di {gl:Nat→AV}:∀ (ps:List Nat) {st:St} {U:Nat→Prop},Cn C st a w U ρ→Wd gl C w U→∃ U',Cn C (ps.foldl Dh st) a w U' ρ∧Wd gl C w U'
 | [],_,U,h,hW=>⟨U,h,hW⟩
 | p::ps,st,U,h,hW=>by
  obtain ⟨U',h',hW'⟩:=Lh p h hW
  exact Di ps h' hW'

theorem io (f:Nat→Nat):∀ cs:List AV,AV.renL f cs=cs.map (AV.ren f)
 | []=>rfl
 | c::cs=>by simp [AV.renL,io f cs]

theorem mD (f:Nat→Nat):∀ (e:Sh) (x:Sem e) (q:Nat) (c:AV),(zn e x)[q]?=some c→c.ren f=c:=by
 intro e
 induction e with
 | unit=>intro y q cc h; simp [zn] at h
 | bool=>intro y q cc h; cases q <;> simp [zn] at h; subst h; simp [AV.ren]
 | int k=>intro y q cc h; cases q <;> simp [zn] at h; subst h; simp [AV.ren]
 | str=>intro y q cc h; cases q <;> simp [zn] at h; subst h; simp [AV.ren]
 | sl e ih=>intro y q cc h; cases q <;> simp [zn] at h; subst h; simp [AV.ren]
 | pr a b iha ihb=>
  intro y q cc h
  simp only [zn] at h
  rcases Nat.lt_or_ge q (zn a y.1).length with hl | hl
  ·rw [j6 hl] at h; exact iha _ _ _ h
  ·rw [lc hl] at h; exact ihb _ _ _ h
 | expr=>
  intro y q cc h
  match q with
  | 0=>simp [zn] at h; subst h; simp [AV.ren]
  | 1=>simp [zn] at h; subst h; simp [AV.ren]
  | 2=>simp [zn] at h; subst h; simp [AV.ren]
  | 3=>simp [zn] at h; subst h; simp [AV.ren]
  | 4=>simp [zn] at h; subst h; simp [AV.ren]
  | 5=>simp [zn] at h; subst h; simp [AV.ren]
  | _+6=>simp [zn] at h

theorem jS:∀ (e:Sh) (x:Sem e) (q:Nat) (c:AV),(zn e x)[q]?=some c→c.ids=[]:=by
 intro e
 induction e with
 | unit=>intro y q cc h; simp [zn] at h
 | bool=>intro y q cc h; cases q <;> simp [zn] at h; subst h; simp [AV.ids]
 | int k=>intro y q cc h; cases q <;> simp [zn] at h; subst h; simp [AV.ids]
 | str=>intro y q cc h; cases q <;> simp [zn] at h; subst h; simp [AV.ids]
 | sl e ih=>intro y q cc h; cases q <;> simp [zn] at h; subst h; simp [AV.ids]
 | pr a b iha ihb=>
  intro y q cc h
  simp only [zn] at h
  rcases Nat.lt_or_ge q (zn a y.1).length with hl | hl
  ·rw [j6 hl] at h; exact iha _ _ _ h
  ·rw [lc hl] at h; exact ihb _ _ _ h
 | expr=>
  intro y q cc h
  match q with
  | 0=>simp [zn] at h; subst h; simp [AV.ids]
  | 1=>simp [zn] at h; subst h; simp [AV.ids]
  | 2=>simp [zn] at h; subst h; simp [AV.ids]
  | 3=>simp [zn] at h; subst h; simp [AV.ids]
  | 4=>simp [zn] at h; subst h; simp [AV.ids]
  | 5=>simp [zn] at h; subst h; simp [AV.ids]
  | _+6=>simp [zn] at h

theorem Rv.ren' {ρ':Nat→Option Value} {f:Nat→Nat} {c:AV} {v:Value} (h:Rv w U ρ c v) (hf:∀ id∈c.ids,∀ v,ρ id=some v→ρ' (f id)=some v):Rv w U ρ' (c.ren f) v:=by
 induction h with
 | any v=>simp only [AV.ren]; exact .any v
 | kb b=>simp only [AV.ren]; exact .kb b
 | bool b=>simp only [AV.ren]; exact .bool b
 | int k n h=>simp only [AV.ren]; exact .int k n h
 | str s h=>simp only [AV.ren]; exact .str s h
 | nils a=>simp only [AV.ren]; exact .nils a
 | sl0 e a c=>simp only [AV.ren]; exact .sl0 e a c
 | sl e l b o c vals hc hm hb hU hcl hr ih=>
  simp only [AV.ren]
  refine .sl e l b o c vals hc hm hb hU hcl (fun i hi j cc hcc=>?_)
  have:=ih i hi j cc hcc (fun id hid=>by rw [jS e _ j cc hcc] at hid; simp at hid)
  rwa [mD f e _ j cc hcc] at this
 | vec id v h h1=>simp only [AV.ren]; exact .vec _ v (hf id (by simp [AV.ids]) _ h) h1
 | ptr id off b h=>simp only [AV.ren]; exact .ptr _ off b (hf id (by simp [AV.ids]) _ h)
 | vptr id sz i off b n c h=>simp only [AV.ren]; exact .vptr _ sz i off b n c (hf id (by simp [AV.ids]) _ h)
 | eptr cs off b o vals hb hU hcl h1 hr ih=>
  simp only [AV.ren,io]
  refine .eptr _ off b o vals hb hU (by simpa using hcl) (by simpa using h1) (fun j c hc=>?_)
  simp only [de,dI] at hc
  obtain ⟨c',hc',rfl⟩:=hc
  exact ih j c' hc' (fun id hid=>hf id (by simp only [AV.ids]; exact ff (iE hc') hid))
 | nilp=>simp only [AV.ren]; exact .nilp
 | agg cs vs hl h1 hr ih=>
  simp only [AV.ren,io]
  refine .agg _ vs (by simpa using hl) h1 (fun j c v hc hv=>?_)
  simp only [de,dI] at hc
  obtain ⟨c',hc',rfl⟩:=hc
  exact ih j c' v hc' hv (fun id hid=>hf id (by simp only [AV.ids]; exact ff (iE hc') hid))
 | tup cs vs hl hr ih=>
  simp only [AV.ren,io]
  refine .tup _ vs (by simpa using hl) (fun j c v hc hv=>?_)
  simp only [de,dI] at hc
  obtain ⟨c',hc',rfl⟩:=hc
  exact ih j c' v hc' hv (fun id hid=>hf id (by simp only [AV.ids]; exact ff (iE hc') hid))
 | clo fn fs cs vf vc hfl hcl hrf hrc ihf ihc=>
  simp only [AV.ren,io]
  refine .clo fn _ _ vf vc (by simpa using hfl) (by simpa using hcl) (fun j c v hc hv=>?_) (fun j c v hc hv=>?_)
  ·simp only [de,dI] at hc
   obtain ⟨c',hc',rfl⟩:=hc
   exact ihf j c' v hc' hv (fun id hid=>hf id (by simp only [AV.ids,bn]; exact .inl (ff (iE hc') hid)))
  ·simp only [de,dI] at hc
   obtain ⟨c',hc',rfl⟩:=hc
   exact ihc j c' v hc' hv (fun id hid=>hf id (by simp only [AV.ids,bn]; exact .inr (ff (iE hc') hid)))
 | nilf=>simp only [AV.ren]; exact .nilf
 | mp id v h h1=>simp only [AV.ren]; exact .mp _ v (hf id (by simp [AV.ids]) _ h) h1
 | ifcN=>simp only [AV.ren]; exact .ifcN
 | ifcS t v=>simp only [AV.ren]; exact .ifcS t v
 | tab k zs b T fr hb hU=>simp only [AV.ren]; exact .tab k zs b T fr hb hU
 | gint m b T fr hm hb hU=>simp only [AV.ren]; exact .gint m b T fr hm hb hU
 | vsuf id sz i n c a h hi hn=>simp only [AV.ren]; exact .vsuf _ sz i n c a (hf id (by simp [AV.ids]) _ h) hi hn

theorem cK.ren' {ρ':Nat→Option Value} {f:Nat→Nat} {cs:List AV} {vs:List Value} (h:cK w U ρ cs vs) (hf:∀ id∈AV.idsL cs,∀ v,ρ id=some v→ρ' (f id)=some v):cK w U ρ' (AV.renL f cs) vs:=by
 rw [io]
 refine ⟨by simpa using h.len,fun j c v hc hv=>?_⟩
 simp only [de,dI] at hc
 obtain ⟨c',hc',rfl⟩:=hc
 exact (h.rv j c' v hc' hv).ren' (fun id hid=>hf id (ff (iE hc') hid))

theorem be.ren' {ρ':Nat→Option Value} {f:Nat→Nat} {id id':Nat} {o:AO} (h:be w U ρ id o) (hid:∀ v,ρ id=some v→ρ' id'=some v) (hf:∀ i∈o.ids,∀ v,ρ i=some v→ρ' (f i)=some v):be w U ρ' id' (o.ren f):=by
 have plain:∀ (e:Sh) (x:Sem e) (j:Nat) (c:AV) (v:Value),(zn e x)[j]?=some c→Rv w U ρ c v→Rv w U ρ' c v:=by
  intro e x j c v hc hr
  have:=hr.ren' (ρ':=ρ') (f:=f) (fun i hi=>by rw [jS e x j c hc] at hi; simp at hi)
  rwa [mD f e x j c hc] at this
 cases o with
 | dead=>trivial
 | box cs=>
  obtain ⟨b,T,vals,h1,h2,h3,h4,h5⟩:=h
  exact ⟨b,T,vals,hid _ h1,h2,h3,h4.ren' hf,h5⟩
 | vec e l=>
  obtain ⟨a,c,h1,h2,h3⟩:=h
  refine ⟨a,c,hid _ h1,h2,?_⟩
  rcases h3 with h3 | ⟨b,T,arr,rfl,hc,hU,hb,hsz,hle,hr⟩
  ·exact .inl h3
  ·refine .inr ⟨b,T,arr,rfl,hc,hU,hb,hsz,hle,fun i hi j c hx=>?_⟩
   obtain ⟨v,hv,hrv⟩:=hr i hi j c hx
   exact ⟨v,hv,plain e _ j c v hx hrv⟩
 | frz e l=>
  obtain ⟨v,h1,h2⟩:=h
  refine ⟨v,hid _ h1,?_⟩
  have:=h2.ren' (ρ':=ρ') (f:=f) (by simp [AV.ids])
  simpa [AV.ren] using this
 | fmap es=>
  obtain ⟨r,ents,clock,h1,h2,h3,h4,h5⟩:=h
  refine ⟨r,ents,clock,hid _ h1,h2,h3,?_,by rw [h5]; simp⟩
  have:=h4.ren' (ρ':=ρ') (f:=f) hf
  rw [io] at this
  simpa [rY,rV] using this
 | vmap u es=>
  obtain ⟨r,ents,clock,h1,h2,h3,h4,h5⟩:=h
  exact ⟨r,ents,clock,hid _ h1,h2,h3,h4,h5⟩
 | hol e l i m=>
  obtain ⟨b,T,arr,c,h1,h2,h3,h4,h5,h6,h7,h8,x,h9,h10⟩:=h
  refine ⟨b,T,arr,c,hid _ h1,h2,h3,h4,h5,h6,h7,fun k hk hki=>?_,x,h9,?_⟩
  ·obtain ⟨v,e1,e2⟩:=h8 k hk hki
   refine ⟨v,e1,?_⟩
   have:=e2.ren' (ρ':=ρ') (f:=f) (by simp [AV.ids])
   simpa [AV.ren] using this
  ·have:=h10.ren' (ρ':=ρ') (f:=f) (by simpa [AV.ids,AO.ids] using hf)
   simpa [AV.ren] using this

theorem Rv.ren {ρ':Nat→Option Value} {f:Nat→Nat} {c:AV} {v:Value} (h:Rv w U ρ c v) (hf:∀ id∈c.ids,ρ' (f id)=ρ id):Rv w U ρ' (c.ren f) v:=
 h.ren' fun id hid v hv=>by rw [hf id hid]; exact hv

theorem cK.ren {ρ':Nat→Option Value} {f:Nat→Nat} {cs:List AV} {vs:List Value} (h:cK w U ρ cs vs) (hf:∀ id∈AV.idsL cs,ρ' (f id)=ρ id):cK w U ρ' (AV.renL f cs) vs:=
 h.ren' fun id hid v hv=>by rw [hf id hid]; exact hv

theorem be.ren {ρ':Nat→Option Value} {f:Nat→Nat} {id id':Nat} {o:AO} (h:be w U ρ id o) (hid:ρ' id'=ρ id) (hf:∀ i∈o.ids,ρ' (f i)=ρ i):be w U ρ' id' (o.ren f):=
 h.ren' (fun v hv=>by rw [hid]; exact hv) fun id hid v hv=>by rw [hf id hid]; exact hv

theorem wh {f:Nat→Nat} (o:AO):(o.ren f).owns=o.owns:=by cases o <;> rfl

theorem wb:∀ {l:List Nat},Hf l=true→l.Nodup
 | [],_=>List.nodup_nil
 | i::r,h=>by
  simp [Hf] at h
  exact List.nodup_cons.2 ⟨h.1,wb h.2⟩

theorem HR {n0:Nat} {ids from_:List Nat} {hp:Nat→AO} (hC:∀ id,n0≤id→C.ρ0 id=none) (hcl:iY hp n0 from_ ids=true) (hH:gY C w U ρ hp) (hr0:∀ id v,C.ρ0 id=some v→ρ id=some v):
  let ρ':=fun j=>(ids[j]?).bind ρ
  (∀ id∈from_,ρ' (ids.idxOf id)=ρ id)∧gY C w U ρ' (fun j=>(ids.map fun i=>(hp i).ren fun i=>ids.idxOf i).getD j .dead)∧(∀ id,ids.length≤id→ρ' id=none)∧∀ id v,C.ρ0 id=some v→ρ' id=some v:=by
 intro ρ'
 simp only [iY,aL,cX,t8,eT] at hcl
 obtain ⟨⟨⟨h1,h2⟩,h3⟩,h4⟩:=hcl
 have hnd:=wb h3
 have hat:∀ id∈ids,ρ' (ids.idxOf id)=ρ id:=by
  intro id hid
  have hlt:ids.idxOf id < ids.length:=List.idxOf_lt_length_iff.2 hid
  show (ids[ids.idxOf id]?).bind ρ=ρ id
  rw [zJ hlt,List.getElem_idxOf hlt]
  rfl
 have hj:∀ j (hj:j < ids.length),ρ' j=ρ ids[j]:=by
  intro j hj
  show (ids[j]?).bind ρ=ρ ids[j]
  rw [zJ hj]
  rfl
 have hhp:∀ j (hj:j < ids.length),(ids.map fun i=>(hp i).ren fun i=>ids.idxOf i).getD j .dead=(hp ids[j]).ren fun i=>ids.idxOf i:=by
  intro j hj
  rw [aJ,de,zJ hj]
  rfl
 have hhp':∀ j,ids.length≤j→(ids.map fun i=>(hp i).ren fun i=>ids.idxOf i).getD j .dead=.dead:=by
  intro j hj
  rw [aJ,dd (by simpa using hj)]
  rfl
 have howns:∀ j b,zO ρ' j ((ids.map fun i=>(hp i).ren fun i=>ids.idxOf i).getD j .dead) b→∃ hj:j < ids.length,zO ρ ids[j] (hp ids[j]) b:=by
  rintro j b ⟨ho,v,hv,hb⟩
  by_cases hlt:j < ids.length
  ·refine ⟨hlt,?_,v,by rw [← hj j hlt]; exact hv,hb⟩
   rw [hhp j hlt,wh] at ho
   exact ho
  ·rw [hhp' j (by omega)] at ho
   simp [AO.owns] at ho
 refine ⟨fun id hid=>hat id (h1 id hid),⟨fun j=>?_,fun j1 j2 b o1 o2=>?_,fun j b o=>?_⟩,fun j hge=>?_,fun id v hv=>?_⟩
 ·by_cases hlt:j < ids.length
  ·rw [hhp j hlt]
   exact (hH.ob ids[j]).ren (hj j hlt) (fun i hi=>hat i (h2 ids[j] (dg hlt) i hi))
  ·rw [hhp' j (by omega)]; trivial
 ·obtain ⟨l1,q1⟩:=howns j1 b o1
  obtain ⟨l2,q2⟩:=howns j2 b o2
  exact (List.getElem_inj hnd).1 (hH.inj _ _ b q1 q2)
 ·obtain ⟨l1,q1⟩:=howns j b o
  exact hH.blk _ b q1
 ·show (ids[j]?).bind ρ=none
  rw [dd hge]; rfl
 ·have hlt:id < n0:=by
   apply xv
   intro hge
   rw [hC id (by omega)] at hv; cases hv
  have hget:ids[id]?=some id:=by
   have e1:(ids.take n0)[id]?=some id:=by rw [h4,x7 hlt]
   rwa [uc,if_pos hlt] at e1
  show (ids[id]?).bind ρ=some v
  rw [hget]
  exact hr0 id v hv

theorem Hi {gl:Nat→AV} {n0:Nat} {k:ah} {st st':St} (hC:∀ id,n0≤id→C.ρ0 id=none) (h:WY n0 k st=some st') (hc:Cn C st a w U ρ) (hW:Wd gl C w U):∃ U' ρ',Cn C st' a w U' ρ'∧Wd gl C w U':=by
 unfold WY at h
 obtain ⟨U',h0,hW'⟩:=Di k.fill (Qa k.slots hc) hW
 obtain ⟨ρ1,h1⟩:=wn k.prom h0
 generalize k.prom.foldl p8 (k.fill.foldl Dh { st with tmps:=xL k.slots 0 st.tmps })=s1 at h h1
 unfold Tb at h
 simp only at h
 split at h
 ·rename_i hcl
  cases h
  obtain ⟨e1,e2,e3,e4⟩:=HR hC hcl h1.hp h1.r0
  exact ⟨U',_,⟨h1.tm.ren e1,e2,by simpa using e3,h1.df,e4⟩,hW'⟩
 ·cases h

end

def Tr.Sat {α:Type} (Φ:α→Prop):Tr α→Prop
 | .err=>False
 | .chk c t=>c=true∧t.Sat Φ
 | .br c t f=>(c=true→t.Sat Φ)∧(c=false→f.Sat Φ)
 | .ok a=>Φ a

theorem Tr.sat_val {α:Type} {Φ:α→Prop}:∀ {t:Tr α},t.Sat Φ→∃ a,t.val=some a∧Φ a
 | .err,h=>h.elim
 | .chk c t,⟨hc,h⟩=>by subst hc; simpa [Tr.val] using sat_val h
 | .br c t f,⟨h1,h2⟩=>by
  cases c
  ·simpa [Tr.val] using sat_val (h2 rfl)
  ·simpa [Tr.val] using sat_val (h1 rfl)
 | .ok a,h=>⟨a,rfl,h⟩

theorem Tr.sat_bind {α β:Type} {Φ:β→Prop} {k:α→Tr β}:∀ {t:Tr α},(t.bind k).Sat Φ→t.Sat fun a=>(k a).Sat Φ
 | .err,h=>h
 | .chk _ _,⟨hc,h⟩=>⟨hc,sat_bind h⟩
 | .br _ _ _,⟨h1,h2⟩=>⟨fun hc=>sat_bind (h1 hc),fun hc=>sat_bind (h2 hc)⟩
 | .ok _,h=>h

def J7 (E:bt) (C:cH) (Q:AV→List AO→Prop) (e:Ending) (w':World):Prop:=
 ∃ v r h' U' ρ',e=.returned v∧Q r h'∧Rv w' U' ρ' r v∧gY C w' U' ρ' (fun j=>h'.getD j .dead)∧(∀ id,h'.length≤id→ρ' id=none)∧(∀ id v,C.ρ0 id=some v→ρ' id=some v)∧Wd E.gl C w' U'

def Reach (E:bt) (C:cH) (fn:FuncId) (todo:List Item) (st:St) (Q:AV→List AO→Prop):Prop:=
 ∀ (b:Frame) (cs:List Frame) (a:Act) (w:World) (U:Nat→Prop) (ρ:Nat→Option Value),b.fn=fn→b.kind=.normal→Cn C st a w U ρ→Wd E.gl C w U→
  ∃ e w' fr,J7 E C Q e w'∧Comes E.P (lone (b.at a todo) cs w) (lone fr cs w') e∧fr.fn=fn∧fr.leaving E.P w' e

def ix (E:bt) (C:cH) (fn:FuncId) (Q:AV→List AO→Prop):zt→Prop
 | .head _ k st=>Reach E C fn k st Q
 | .ret v h=>Q v h
 | .fork c k1 k2 st=>(c=true→Reach E C fn k1 st Q)∧Reach E C fn k2 st Q

section
variable {E:bt} {C:cH} {fn:FuncId} {Q:AV→List AO→Prop}

theorem Reach.step {todo todo':List Item} {st:St} (h:Reach E C fn todo' st Q) (hs:∀ (b:Frame) (a:Act) (cs:List Frame) (w:World),step E.P (lone (b.at a todo) cs w)=.next (lone (b.at a todo') cs w)):Reach E C fn todo st Q:=by
 intro b cs a w U ρ h1 h2 hc hW
 obtain ⟨e,w',fr,hp,hcm,hf,hl⟩:=h b cs a w U ρ h1 h2 hc hW
 exact ⟨e,w',fr,hp,lR (.one (hs b a cs w)) hcm,hf,hl⟩

def BF (tmps:Array Value):ResultVar→Go.Sem Value
 | .tmp t=>pure (tmps.getD t undef)
 | .cell x t=>do loadVar t (← asAddr (tmps.getD x undef))

theorem F1 (f:Func) (tmps:Array Value):results f tmps=(do
  let vs ← f.results.mapM (BF tmps)
  pure (if h:vs.size=1 then vs[0] else .tuple vs)):=by
 unfold results
 congr 2

theorem wJ {a:Act} {w:World} {U:Nat→Prop} {ρ:Nat→Option Value} {st:St} (hc:Cn C st a w U ρ):∀ (rs:List ResultVar) (vs:List AV),ql E st rs=some vs→
  ∃ xs:List Value,(rs.mapM (BF a.tmps)).run E.P w=.ok xs w∧cK w U ρ vs xs
 | [],vs,h=>by
  simp [ql] at h; subst h
  exact ⟨[],by simp,rfl,by simp⟩
 | r :: rs,vs,h=>by
  simp only [ql] at h
  split at h
  ·rename_i v vs' hv hvs
   cases h
   obtain ⟨xs,hrun,hrv⟩:=wJ hc rs vs' hvs
   have hslot:∀ t,Rv w U ρ (st.tmps.getD t .any) (a.tmps.getD t undef):=by
    intro t
    by_cases ht:t < st.tmps.length
    ·have ht':t < a.tmps.toList.length:=by rw [← hc.tm.len]; exact ht
     refine hc.tm.rv t _ _ (by rw [aJ,zJ ht]; rfl) ?_
     rw [j5]
     have:t < a.tmps.size:=by simpa using ht'
     simp [gZ this]
    ·rw [aJ,dd (by omega)]
     exact .any _
   have one:∃ x,(BF a.tmps r).run E.P w=.ok x w∧Rv w U ρ v x:=by
    cases r with
    | tmp t=>
     simp only [BG,ao] at hv
     subst hv
     exact ⟨_,rfl,hslot t⟩
    | cell x t=>
     simp only [BG] at hv
     have hs:=hslot x
     split at hv
     ·rename_i id off hp
      rw [hp] at hs
      generalize hvx:a.tmps.getD x undef=vx at hs
      split at hv
      ·rename_i cs hcs
       have ho:=hc.hp.ob id
       rw [hcs] at ho
       have:=yX (P:=E.P) (w:=w) (U:=U) (ρ:=ρ) (hp:=st.hp) (t:=t) (av:=.ptr id off) (v:=vx) (f:={ val:=v }) (by simp [Bd,hcs,hv]) hs (fun i hi=>hc.hp.ob i)
       obtain ⟨r',x',e1,hrun',hr'⟩:=this
       cases e1
       cases hs with
       | ptr _ _ b hb=>
       refine ⟨x',?_,hr'⟩
       simp only [BF,hvx,asAddr,cZ,ol,jj]
       simpa [Instr.loadAt,Instr.sureAddr] using hrun'
      ·cases hv
     ·cases hv
   obtain ⟨x,hx,hrx⟩:=one
   refine ⟨x::xs,?_,⟨by simp [hrv.len],fun j c y hc' hy=>?_⟩⟩
   ·simp only [List.mapM_cons,cZ,hx,jj,hrun,ol]
   ·cases j with
    | zero=>simp at hc' hy; subst hc'; subst hy; exact hrx
    | succ j=>exact hrv.rv j c y (by simpa using hc') (by simpa using hy)
  ·cases h

theorem XR {n0:Nat} {f:Func} (_:E.P.funcs[fn]?=some f) (hC:∀ id,n0≤id→C.ρ0 id=none) {rs:List ResultVar} (hrs:f.results.toList=rs) {st:St} (h:(qk E n0 rs st).Sat (ix E C fn Q))
  {a:Act} {w:World} {U:Nat→Prop} {ρ:Nat→Option Value} (hc:Cn C st a w U ρ) (hW:Wd E.gl C w U):∃ v,(results f a.tmps).run E.P w=.ok v w∧J7 E C Q (.returned v) w:=by
 unfold qk at h
 split at h
 ·rename_i vs hvs
  obtain ⟨xs,hrun,hrv⟩:=wJ hc rs vs hvs
  simp only at h
  have hres:(results f a.tmps).run E.P w=.ok (if h:xs.toArray.size=1 then xs.toArray[0] else .tuple xs.toArray) w:=by
   rw [F1,cZ,Array.mapM_eq_mapM_toList,Sem.run_map,hrs,hrun]
   rfl
  have hval:Rv w U ρ (Bp vs) (if h:xs.toArray.size=1 then xs.toArray[0] else .tuple xs.toArray):=by
   clear h hvs hrun hres
   have hl:=hrv.len
   match vs,xs,hl,hrv with
   | [c],[x],_,hrv=>simpa [Bp] using hrv.rv 0 c x rfl rfl
   | [],[],_,_=>simpa [Bp] using Rv.tup (w:=w) (U:=U) (ρ:=ρ) [] [] rfl (by simp)
   | c1::c2::cs,x1::x2::xs,hl,hrv=>
    rw [dif_neg (by simp)]
    exact .tup _ _ hl hrv.rv
  refine ⟨_,hres,?_⟩
  split at h
  ·rename_i hcl
   obtain ⟨e1,e2,e3,e4⟩:=HR hC hcl hc.hp hc.r0
   exact ⟨_,_,_,U,_,rfl,h,hval.ren e1,e2,by simpa using e3,e4,hW⟩
  ·exact h.elim
 ·exact h.elim

theorem uE {a:Act} {w:World} {U:Nat→Prop} {ρ:Nat→Option Value} {st:St} {c:Operand} {t:Bool} (hc:Cn C st a w U ρ) (hx:a.eval c=.bool t):Cn C (tc st c t) a w U ρ:=by
 unfold tc
 split
 ·rename_i i
  refine { hc with tm:=⟨by simpa using hc.tm.len,fun j d v hd hv=>?_⟩ }
  rw [jJ] at hd
  split at hd
  ·rename_i hij
   subst hij
   split at hd
   ·cases hd
    have:a.eval (.tmp i)=v:=by
     simp only [Act.eval]
     rw [j5]
     have:=bM.1 hv
     obtain ⟨h1,h2⟩:=this
     have h1':i < a.tmps.size:=by simpa using h1
     simp [gZ h1',← h2]
    rw [this] at hx
    subst hx
    exact .kb t
   ·cases hd
  ·exact hc.tm.rv j d v hd hv
 ·exact hc

theorem Iu {w:World} {U:Nat→Prop} {ρ:Nat→Option Value} {hp:Nat→AO} {av:AV} {v:Value} {c:Bool} (h:AW hp av=some c) (hr:Rv w U ρ av v) (hob:∀ id,be w U ρ id (hp id)):∃ a n cp,v=.slice a n cp∧(a=none→c=true):=by
 have fin:∀ {e:Sh} {l:List (Sem e)} {v:Value},Rv w U ρ (.sl e l) v→∃ a n cp,v=.slice a n cp∧(a=none→l.isEmpty=true):=by
  intro e l v hr
  cases hr with
  | sl0 _ a c=>exact ⟨a,0,c,rfl,fun _=>rfl⟩
  | sl _ _ b o c _ _ _ _ _ _ _=>exact ⟨some ⟨b,o,none⟩,_,c,rfl,fun h=>by cases h⟩
 cases av <;> simp [AW] at h
 case nils=>
  subst h
  cases hr with
  | nils a=>exact ⟨a,0,0,rfl,fun _=>rfl⟩
 case sl e l=>
  subst h
  obtain ⟨a,n,cp,h1,h2⟩:=fin hr
  exact ⟨a,n,cp,h1,fun h=>by simpa using h2 h⟩
 case vec id=>
  cases hr with
  | vec _ _ hv _=>
  have ho:=hob id
  split at h
  ·rename_i e l hid
   simp only [ao] at h
   subst h
   rw [hid] at ho
   obtain ⟨a,c,h1,_,h3⟩:=ho
   rw [hv] at h1; cases h1
   refine ⟨a,_,c,rfl,fun ha=>?_⟩
   rcases h3 with ⟨rfl,_⟩ | ⟨b,T,arr,hb,_⟩
   ·rfl
   ·rw [ha] at hb; cases hb
  ·rename_i e l hid
   simp only [ao] at h
   subst h
   rw [hid] at ho
   obtain ⟨v',h1,h2⟩:=ho
   rw [hv] at h1; cases h1
   exact fin h2
  ·cases h

theorem Qb {P:Program} {w:World} {t el:TypeId} (hu:P.underlying t=some (.slice el)) (px qx:Operand) (p:Option Addr) (n cp:Nat):
  (do eqGuard .eql t px qx (.slice p n cp) (.slice none 0 0); binOp .eql t (.slice p n cp) (.slice none 0 0):Go.Sem Value).run P w=.ok (.bool p.isNone) w:=by
 have g:(eqGuard .eql t px qx (.slice p n cp) (.slice none 0 0)).run P w=.ok () w:=by simp [eqGuard]
 have e:(Op.equal t (.slice p n cp) (.slice none 0 0)).run P w=.ok p.isNone w:=by
  show (Op.equalIn (9999+1) t (.slice p n cp) (.slice none 0 0)).run P w=.ok p.isNone w
  unfold Op.equalIn
  rw [cZ,aW hu]
  cases p <;> rfl
 have hb:(binOp .eql t (.slice p n cp) (.slice none 0 0):Go.Sem Value)=(do pure (.bool (← Op.equal t (.slice p n cp) (.slice none 0 0)))):=rfl
 rw [cZ,g,jj,hb,cZ,e,jj]
 rfl

theorem Fw {st:St} {ca cb thn els:Code} {s x d:Nat} {t:TypeId} {c:Bool} {k:List Item} (hn:Bn ca cb=some (s,x,d,t,thn,els)) (he:AW st.hp (st.tmps.getD s .any)=some c) (ht:Fj E.P t=true) (hd:d < st.tmps.length) (hx:x < st.tmps.length)
  (h1:c=true→Reach E C fn (.code thn::k) { st with tmps:=(st.tmps.set x (st.tmps.getD s .any)).set d .any } Q) (h2:Reach E C fn (.code els::k) { st with tmps:=(st.tmps.set x (st.tmps.getD s .any)).set d .any } Q):Reach E C fn (.code (.seq ca cb)::k) st Q:=by
 unfold Bn at hn
 split at hn
 ·rename_i id ops d' a0 b0
  split at hn
  ·rename_i o1 o2 hops
   split at hn
   ·rename_i x' s' d0 t0 x1 ty e1 e2 e3 e4 e5 e6
    split at hn
    ·rename_i hcond
     obtain ⟨rfl,rfl,hxd⟩:=hcond
     cases hn
     intro b cs a w U ρ hb1 hb2 hc hW
     have hsl:∃ el,E.P.underlying t=some (.slice el):=by
      unfold Fj at ht
      split at ht
      ·exact ⟨_,‹_›⟩
      ·cases ht
     obtain ⟨el,hu⟩:=hsl
     have hev:Rv w U ρ (st.tmps.getD s .any) (a.eval (.tmp s)):=by
      have:=Be (E:=E) (known:=[]) hc.tm (by simp) hW.gl (.tmp s)
      simpa [qH] using this
     obtain ⟨p,n,cp,hv,hnone⟩:=Iu he hev (fun id=>hc.hp.ob id)
     have hlen:st.tmps.length=a.tmps.size:=by have:=hc.tm.len; simpa using this
     have hops':ops = #[o1,o2]:=by apply km; simpa using hops
     generalize hA1:a.put (some x) (a.eval (.tmp s))=a1
     have hx1:a1.eval (.tmp x)=.slice p n cp:=by
      rw [← hA1,hv]
      simp only [Act.eval,Act.put]
      rw [j5]
      simp [hlen▸hx]
     have hreg:(Code.region id ops false).wp E.P (fun e a' w'=>e=.normal∧w'=w∧a'=a1.put (some d) (.bool p.isNone)) a w:=by
      refine wp_region ?_
      rw [hops']
      show wpOps E.P #[o1,o2] _ [0,1] a w
      simp only [wpOps,jG,List.getElem?_cons_zero,Region.wanted,e3,if_true]
      refine .inl (dZ (v:=a.eval (.tmp s)) (w':=w) (by simp [execOp,e2]) ?_)
      rw [e1,hA1]
      simp only [List.getElem?_cons_succ,List.getElem?_cons_zero,e6,if_true]
      refine .inl (dZ (v:=.bool p.isNone) (w':=w) ?_ ?_)
      ·have hx1':a1.tmps.getD x undef=.slice p n cp:=hx1
       have hnr:=Qb (w:=w) hu (.tmp x) (.const (.slice none 0 0)) p n cp
       have h1e:a1.eval (.tmp x)=.slice p n cp:=hx1
       have h2e:a1.eval (.const (.slice none 0 0))=.slice none 0 0:=rfl
       unfold execOp
       rw [e5]
       simp only [h1e,h2e]
       simp only [cZ] at hnr ⊢
       simp [hnr]
      ·rw [e4]; exact ⟨trivial,rfl,rfl⟩
     obtain ⟨e,a',w',⟨rfl,rfl,rfl⟩,harr⟩:=hreg b (.code (.cond (.tmp d) thn els)::k) cs
     have hcn:Cn C { st with tmps:=(st.tmps.set x (st.tmps.getD s .any)).set d .any } (a1.put (some d) (.bool p.isNone)) w' U ρ:=by
      refine ⟨?_,hc.hp,hc.new,?_,hc.r0⟩
      ·have r1:=tn (d:=some x) hc.tm hev
       rw [hA1] at r1
       exact tn (d:=some d) r1 (.any (.bool p.isNone))
      ·rw [← hA1]; exact hc.df
     have hd1:(a1.put (some d) (.bool p.isNone)).eval (.tmp d)=.bool p.isNone:=by
      have hl1:d < a1.tmps.size:=by rw [← hA1]; simp [Act.put]; omega
      simp only [Act.eval,Act.put]
      rw [j5]
      simp [hl1]
     cases hp:p with
     | none=>
      rw [hp] at hd1 harr hcn
      obtain ⟨e,w'',fr,q1,q2,q3⟩:=h1 (hnone hp) b cs _ w' U ρ hb1 hb2 hcn hW
      exact ⟨e,w'',fr,q1,lR (.one step_seq) (lR harr (lR (.one (step_cond hd1)) q2)),q3⟩
     | some pa=>
      rw [hp] at hd1 harr hcn
      obtain ⟨e,w'',fr,q1,q2,q3⟩:=h2 b cs _ w' U ρ hb1 hb2 hcn hW
      exact ⟨e,w'',fr,q1,lR (.one step_seq) (lR harr (lR (.one (step_cond hd1)) q2)),q3⟩
    ·cases hn
   ·cases hn
  ·cases hn
 ·cases hn

theorem Ak (hE:zl E) {n0:Nat} {f:Func} (hf:E.P.funcs[fn]?=some f) (hC:∀ id,n0≤id→C.ρ0 id=none) {rs:List ResultVar} (hrs:f.results.toList=rs) {keep:Nat→ah}:
  ∀ (n:Nat) (todo:List Item) (st:St),(run E n0 keep rs n todo st).Sat (ix E C fn Q)→Reach E C fn todo st Q
 | 0,_,_,h=>h.elim
 | n + 1,todo,st,h=>by
  have ih:=Ak hE hf hC hrs (keep:=keep) n
  have head:∀ (c:Code) (k:List Item),(jr n0 (keep (dC c)) (dC c) (.code c::.inLoop c::k) st).Sat (ix E C fn Q)→Reach E C fn (.code c::.inLoop c::k) st Q:=by
   intro c k h
   unfold jr at h
   split at h
   ·rename_i st' hn
    intro b cs a w U ρ h1 h2 hc hW
    obtain ⟨U',ρ',hc',hW'⟩:=Hi hC hn hc hW
    exact h b cs a w U' ρ' h1 h2 hc' hW'
   ·exact h.elim
  have cut:∀ (kp:ah) (key:Nat) (todo:List Item) (st:St),(jr n0 kp key todo st).Sat (ix E C fn Q)→Reach E C fn todo st Q:=by
   intro kp key todo st h
   unfold jr at h
   split at h
   ·rename_i st' hn
    intro b cs a w U ρ h1 h2 hc hW
    obtain ⟨U',ρ',hc',hW'⟩:=Hi hC hn hc hW
    exact h b cs a w U' ρ' h1 h2 hc' hW'
   ·exact h.elim
  have ending:(qk E n0 rs ((keep 1000000).sett.foldl An ((keep 1000000).prom.foldl p8 st))).Sat (ix E C fn Q)→∀ (todo:List Item),(∀ (b:Frame) (a:Act) (cs:List Frame) (w:World),step E.P (lone (b.at a todo) cs w)=.next (lone { b.at a todo with mode:=.returning } cs w))→Reach E C fn todo st Q:=by
   intro h todo hs b cs a w U ρ h1 h2 hc hW
   obtain ⟨ρ',hc'⟩:=wn (keep 1000000).prom hc
   obtain ⟨U',hc2,hW2⟩:=D4 (gl:=E.gl) (keep 1000000).sett hc' hW
   obtain ⟨v,hr,hp⟩:=XR hf hC hrs h hc2 hW2
   refine ⟨.returned v,w,{ b.at a todo with mode:=.returning },hp,.one (hs b a cs w),h1,rfl,hc.df,h2,f,?_,hr⟩
   show E.P.funcs[b.fn]?=some f
   rw [h1]; exact hf
  unfold run at h
  split at h
  ·exact ending h [] (fun b a cs w=>step_end)
  ·exact (ih _ _ h).step (fun b a cs w=>step_inBlock)
  ·split at h
   ·exact (ih _ _ h).step (fun b a cs w=>step_inLoop)
   ·exact (head _ _ h).step (fun b a cs w=>step_inLoop)
  ·rename_i c k
   split at h
   ·exact (ih _ _ h).step (fun b a cs w=>step_skip)
   ·exact (ih _ _ h).step (fun b a cs w=>step_label)
   ·split at h
    ·rename_i hn
     split at h
     ·rename_i c he
      split at h
      ·rename_i hcond
       simp only [aL,ae] at hcond
       exact Fw hn he hcond.1 hcond.2.1 hcond.2.2 h.1 h.2
      ·exact h.elim
     ·exact h.elim
    ·exact (ih _ _ h).step (fun b a cs w=>step_seq)
   ·rename_i co x y
    intro b cs a w U ρ h1 h2 hc hW
    have hev:=Be (E:=E) (known:=[]) hc.tm (by simp) hW.gl co
    generalize hx:a.eval co=v at hev
    split at h
    ·rename_i hco
     rw [hco] at hev; cases hev
     obtain ⟨e,w',fr,q1,q2,q3⟩:=ih _ _ h b cs a w U ρ h1 h2 hc hW
     exact ⟨e,w',fr,q1,lR (.one (step_cond hx)) q2,q3⟩
    ·rename_i hco
     rw [hco] at hev; cases hev
     obtain ⟨e,w',fr,q1,q2,q3⟩:=ih _ _ h b cs a w U ρ h1 h2 hc hW
     exact ⟨e,w',fr,q1,lR (.one (step_cond hx)) q2,q3⟩
    ·rename_i t hco
     rw [hco] at hev; cases hev
     cases t
     ·obtain ⟨e,w',fr,q1,q2,q3⟩:=ih _ _ (h.2 rfl) b cs a w U ρ h1 h2 (uE hc hx) hW
      exact ⟨e,w',fr,q1,lR (.one (step_cond hx)) q2,q3⟩
     ·obtain ⟨e,w',fr,q1,q2,q3⟩:=ih _ _ (h.1 rfl) b cs a w U ρ h1 h2 (uE hc hx) hW
      exact ⟨e,w',fr,q1,lR (.one (step_cond hx)) q2,q3⟩
    ·exact h.elim
   ·exact (ih _ _ h).step (fun b a cs w=>step_block)
   ·split at h
    ·exact (ih _ _ h).step (fun b a cs w=>step_loop)
    ·exact (head _ _ h).step (fun b a cs w=>step_loop)
   ·rename_i id
    split at h
    ·rename_i k' hk
     exact (ih _ _ h).step (fun b a cs w=>step_exit hk)
    ·exact h.elim
   ·exact ending h _ (fun b a cs w=>step_ret)
   ·rename_i id ops draw
    intro b cs a w U ρ h1 h2 hc hW
    obtain ⟨st',hv,hs⟩:=Tr.sat_val (Tr.sat_bind h)
    obtain ⟨e,a',w',⟨rfl,U',ρ',hc',hW'⟩,harr⟩:=xH (id:=id) hE hv hc hW b k cs
    have hR:Reach E C fn k st' Q:=by
     split at hs
     ·exact cut _ _ _ _ hs
     ·exact ih _ _ hs
    obtain ⟨e,w'',fr,q1,q2,q3⟩:=hR b cs a' w' U' ρ' h1 h2 hc' hW'
    exact ⟨e,w'',fr,q1,lR harr q2,q3⟩
   ·exact h.elim
  ·exact h.elim

end

@[reducible] def zw:List (Option Sh)→Type
 | []=>Unit
 | some s::ks=>Sem s×zw ks
 | none::ks=>AV×zw ks

def gz:(ks:List (Option Sh))→zw ks→List AV
 | [],_=>[]
 | some s::ks,x=>zz s x.1::gz ks x.2
 | none::ks,x=>x.1::gz ks x.2

abbrev cF (ks:List (Option Sh)):=zw ks→List AO→Tr (AV×List AO)

def jV (hp:Nat→AO) (f:Nat→Nat):(ks:List (Option Sh))→List AV→Option (zw ks)
 | [],[]=>some ()
 | some s::ks,a::as=>match rZ hp s a,jV hp f ks as with
  | some x,some r=>some (x,r)
  | _,_=>none
 | none::ks,a::as=>match jV hp f ks as with
  | some r=>some (a.ren f,r)
  | none=>none
 | _,_=>none

def bK (hp:Nat→AO):List (Option Sh)→List AV→Option (List (Bool×AV))
 | [],[]=>some []
 | some s::ks,a::as=>match rZ hp s a,bK hp ks as with
  | some x,some r=>some ((false,zz s x)::r)
  | _,_=>none
 | none::ks,a::as=>match bK hp ks as with
  | some r=>some ((true,a)::r)
  | none=>none
 | _,_=>none

def eh:List (Option Sh)→List AV→List Nat
 | some _::ks,a::as=>cJ a++eh ks as
 | none::ks,_::as=>eh ks as
 | _,_=>[]

def lH:AV→Bool
 | .bool _ | .kb _ | .int _ _ | .str _ | .ifc _=>true
 | _=>false

def nQ:AV→Bool
 | .tup vs=>vs.all lH
 | v=>lH v

def eO (ps:List (Bool×AV)):List AV:=(ps.filter (·.1)).map (·.2)

def lv (π:List Nat) (n:Nat) (j:Nat):Nat:=if j < π.length then π.getD j 0 else n+(j - π.length)

def Hb (hp:Nat→AO) (n:Nat) (π z:List Nat) (r:AV) (h':List AO):Tr ew:=
  if π.length≤h'.length then
    .ok { val:=r.ren (lv π n),wr:=(π.zip h').map (fun p=>(p.1,p.2.ren (lv π n)))++(if nQ r&&π.isEmpty&&h'.isEmpty then [] else ed hp z),
          nw:=(h'.drop π.length).map (AO.ren (lv π n)) }
  else .err

def WV:AO→Bool
 | .dead=>false
 | _=>true

def zU (kinds:List (Option Sh)) (G:cF kinds):zF:=fun args hp n=>
 match bK hp kinds args with
 | some ps=>
  let π:=iK hp 400 (AV.idsL (eO ps)) []
  let z:=eh kinds args
  if iY hp 0 (AV.idsL (eO ps)) π&&z.all (fun i=>kG (hp i) && !π.contains i)&&π.all (fun i=>decide (i < n)&&WV (hp i)) then
   match jV hp (fun i=>π.idxOf i) kinds args with
   | some x=>(G x (π.map fun i=>(hp i).ren fun i=>π.idxOf i)).bind fun p=>Hb hp n π z p.1 p.2
   | none=>.err
  else .err
 | none=>.err

def Oc (E:bt) (k:FuncId) (args:List AV) (h0:List AO) (Q:AV→List AO→Prop):Prop:=
 ∃ f c,E.P.funcs[k]?=some f∧f.body=some c∧(f.name == "runtime.NumGoroutine")=false∧args.length≤f.ntmps∧
  ∀ C:cH,(∀ id,h0.length≤id→C.ρ0 id=none)→Reach E C k [.code c] (aq f.ntmps args h0) Q

section
variable {E:bt} {w:World} {U:Nat→Prop} {ρ:Nat→Option Value}

theorem uD {U':Nat→Prop} {ρ':Nat→Option Value} {hp:Nat→AO} {s:Sh} {av:AV} {x:Sem s} {v:Value} (h:rZ hp s av=some x) (hr:Rv w U ρ av v) (hsub:∀ b,U' b→U b)
  (hob:∀ id∈cJ av,be w U ρ id (hp id)∧∀ b,zO ρ id (hp id) b→¬ U' b):Rv w U' ρ' (zz s x) v:=by
 have plain:∀ (c:AV) (v:Value) (j:Nat),(zn s x)[j]?=some c→Rv w U' ρ c v→Rv w U' ρ' c v:=by
  intro c v j hc hr
  have:=hr.ren (ρ':=ρ') (f:=fun i=>i) (fun i hi=>by rw [jS s x j c hc] at hi; simp at hi)
  rwa [mD _ s x j c hc] at this
 obtain ⟨cs,hcs,himp⟩:=r6 h
 obtain ⟨hcv,hcv1⟩:=eA hcs hr
 obtain ⟨q1,q2,q3⟩:=gK (w:=w) (U:=U) (U':=U') (ρ:=ρ) (hp:=hp) hsub s cs x [] (fun j=>(v.cells.toList[j]?).getD undef) himp
  (fun j c hj=>by
   have hlt:j < v.cells.toList.length:=by rw [← hcv.len]; exact (bM.1 hj).1
   exact hcv.rv j c _ hj (by simp [zJ hlt]))
  (fun id hid=>hob id (by simpa [cJ,hcs] using hid))
 have hsz:v.cells.toList.length=s.size:=by rw [← hcv.len]; simpa using q1
 have hagg:s.isAgg=av.isAgg:=by
  unfold rZ at h
  split at h
  ·rename_i he; simpa using he
  ·cases h
 unfold zz
 cases ha:s.isAgg with
 | true=>
  rw [ha] at hagg
  have hvagg:v=.agg v.cells.toList.toArray:=by
   cases hr with
   | agg cs' vs hl h1 hr=>simp [Value.cells]
   | _=>simp [AV.isAgg] at hagg
  rw [hvagg]
  refine .agg _ _ (by rw [zN,hsz]) hcv1 (fun j c y hc hy=>?_)
  have:=plain c _ j hc (q3 j c hc)
  rw [hy] at this
  exact this
 | false=>
  have hone:∃ c,zn s x=[c]:=by
   cases s <;> simp [Sh.isAgg] at ha <;> simp [zn]
  obtain ⟨c,hc⟩:=hone
  have hs1:s.size=1:=by rw [← zN s x,hc]; rfl
  rw [hc]
  have h0:=plain c _ 0 (by rw [hc]; rfl) (q3 0 c (by rw [hc]; rfl))
  rw [ha] at hagg
  have hv:v.cells.toList[0]?=some v:=by
   cases v with
   | agg arr=>
    cases hr with
    | agg=>simp [AV.isAgg] at hagg
    | any=>simp [cellsOf] at hcs
    | vec _ _ _ h1=>simp [Value.oneCell'] at h1
    | mp _ _ _ h1=>simp [Value.oneCell'] at h1
   | _=>rfl
  rw [hv] at h0
  exact h0

theorem il {U':Nat→Prop} {ρ':Nat→Option Value} {hp:Nat→AO} {f:Nat→Nat} (hsub:∀ b,U' b→U b):∀ (kinds:List (Option Sh)) (args:List AV) (vals:List Value) (ps:List (Bool×AV)),bK hp kinds args=some ps→
  cK w U ρ args vals→(∀ id∈eh kinds args,be w U ρ id (hp id)∧∀ b,zO ρ id (hp id) b→¬ U' b)→(∀ id∈AV.idsL (eO ps),ρ' (f id)=ρ id)→
  cK w U' ρ' (ps.map fun p=>if p.1 then p.2.ren f else p.2) vals∧∀ id∈AV.idsL (eO ps),id∈AV.idsL args
 | [],[],vals,ps,h,hr,_,_=>by
  simp [bK] at h; subst h
  exact ⟨by simpa using ⟨hr.len,fun j c v hc=>by simp at hc⟩,by simp [eO,AV.idsL]⟩
 | some s::ks,a::as,[],ps,_,hr,_,_=>by have:=hr.len; simp at this
 | none::ks,a::as,[],ps,_,hr,_,_=>by have:=hr.len; simp at this
 | some s::ks,a::as,v::vals,ps,h,hr,hob,hρ=>by
  simp only [bK] at h
  split at h
  ·rename_i x r hx hrr
   cases h
   have htl:cK w U ρ as vals:=⟨by have:=hr.len; simpa using this,fun j c v hc hv=>hr.rv (j+1) c v hc hv⟩
   obtain ⟨h1,h2⟩:=il hsub ks as vals r hrr htl (fun id hid=>hob id (by simp [eh,hid])) (fun id hid=>hρ id (by simpa [eO] using hid))
   refine ⟨⟨by simp [h1.len.symm],fun j c y hc hy=>?_⟩,fun id hid=>?_⟩
   ·cases j with
    | zero=>
     simp at hc hy; subst hc; subst hy
     exact uD hx (hr.rv 0 a v rfl rfl) hsub (fun id hid=>hob id (by simp [eh,hid]))
    | succ j=>exact h1.rv j c y (by simpa using hc) (by simpa using hy)
   ·simp only [AV.idsL,bn]
    exact .inr (h2 id (by simpa [eO] using hid))
  ·cases h
 | none::ks,a::as,v::vals,ps,h,hr,hob,hρ=>by
  simp only [bK] at h
  split at h
  ·rename_i r hrr
   cases h
   have htl:cK w U ρ as vals:=⟨by have:=hr.len; simpa using this,fun j c v hc hv=>hr.rv (j+1) c v hc hv⟩
   obtain ⟨h1,h2⟩:=il hsub ks as vals r hrr htl (fun id hid=>hob id (by simpa [eh] using hid)) (fun id hid=>hρ id (by simp [eO,AV.idsL] at hid ⊢; exact .inr hid))
   refine ⟨⟨by simp [h1.len.symm],fun j c y hc hy=>?_⟩,fun id hid=>?_⟩
   ·cases j with
    | zero=>
     simp at hc hy; subst hc; subst hy
     exact ((hr.rv 0 a v rfl rfl).weak hsub).ren (fun id hid=>hρ id (by simp [eO,AV.idsL]; exact .inl hid))
    | succ j=>exact h1.rv j c y (by simpa using hc) (by simpa using hy)
   ·simp [eO,AV.idsL] at hid ⊢
    rcases hid with hid | hid
    ·exact .inl hid
    ·exact .inr (h2 id (by simpa [eO] using hid))
  ·cases h
 | [],_::_,_,_,h,_,_,_=>by simp [bK] at h
 | some _::_,[],_,_,h,_,_,_=>by simp [bK] at h
 | none::_,[],_,_,h,_,_,_=>by simp [bK] at h

theorem rA {hp:Nat→AO} {f:Nat→Nat}:∀ (kinds:List (Option Sh)) (args:List AV) (ps:List (Bool×AV)) (x:zw kinds),bK hp kinds args=some ps→jV hp f kinds args=some x→
  gz kinds x=ps.map fun p=>if p.1 then p.2.ren f else p.2
 | [],[],ps,x,h,_=>by simp [bK] at h; subst h; rfl
 | some s::ks,a::as,ps,x,h,hx=>by
  simp only [bK] at h
  simp only [jV] at hx
  split at h
  ·rename_i y r hy hr
   cases h
   rw [hy] at hx
   split at hx
   ·rename_i y' r' hy' hr'
    cases hy'
    cases hx
    simp [gz,rA ks as r r' hr hr']
   ·cases hx
  ·cases h
 | none::ks,a::as,ps,x,h,hx=>by
  simp only [bK] at h
  simp only [jV] at hx
  split at h
  ·rename_i r hr
   cases h
   split at hx
   ·rename_i r' hr'
    cases hx
    simp [gz,rA ks as r r' hr hr']
   ·cases hx
  ·cases h
 | [],_::_,_,_,h,_=>by simp [bK] at h
 | some _::_,[],_,_,h,_=>by simp [bK] at h
 | none::_,[],_,_,h,_=>by simp [bK] at h

theorem mQ:∀ (kinds:List (Option Sh)) (args:List AV) (id:Nat),id∈eh kinds args→id∈AV.idsL args
 | some _::ks,a::as,id,h=>by
  simp only [eh,bn] at h
  simp only [AV.idsL,bn]
  exact h.imp jW (mQ ks as id)
 | none::ks,_::as,id,h=>by
  simp only [eh] at h
  simp only [AV.idsL,bn]
  exact .inr (mQ ks as id h)
 | [],_,_,h=>by simp [eh] at h
 | some _::_,[],_,h=>by simp [eh] at h
 | none::_,[],_,h=>by simp [eh] at h

theorem wT {w':World} {U':Nat→Prop} {ρ':Nat→Option Value} {r:AV} {v:Value} {f:Nat→Nat} (h:nQ r=true) (hr:Rv w U ρ r v):Rv w' U' ρ' (r.ren f) v:=by
 have one:∀ (r:AV) (v:Value),lH r=true→Rv w U ρ r v→Rv w' U' ρ' (r.ren f) v:=by
  intro r v h hr
  cases hr <;> simp [lH] at h <;> simp only [AV.ren]
  ·exact .kb _
  ·exact .bool _
  ·exact .int _ _ ‹_›
  ·exact .str _ ‹_›
  ·exact .ifcN
  ·exact .ifcS _ _
 cases r with
 | tup vs=>
  cases hr with
  | tup _ xs hl hrr=>
  simp only [nQ,cX] at h
  simp only [AV.ren,io]
  refine .tup _ xs (by simpa using hl) (fun j c v hc hv=>?_)
  simp only [de,dI] at hc
  obtain ⟨c',hc',rfl⟩:=hc
  exact one c' v (h c' (iE hc')) (hrr j c' v hc' hv)
 | _=>exact one _ v (by simpa [nQ] using h) hr

theorem oJ {hp:Nat→AO} {S:List Nat} (hcl:∀ id∈S,∀ j∈(hp id).ids,j∈S):∀ (fuel:Nat) (todo seen:List Nat),(∀ i∈todo,i∈S)→(∀ i∈seen,i∈S)→∀ i∈iK hp fuel todo seen,i∈S
 | 0,_,_,_,hs=>hs
 | _+1,[],_,_,hs=>hs
 | n+1,i::r,seen,ht,hs=>by
  simp only [iK]
  split
  ·exact oJ hcl n r seen (fun j hj=>ht j (by simp [hj])) hs
  ·refine oJ hcl n _ _ (fun j hj=>?_) (fun j hj=>?_)
   ·rcases bn.1 hj with hj | hj
    ·exact ht j (by simp [hj])
    ·exact hcl i (ht i (by simp)) j hj
   ·rcases bn.1 hj with hj | hj
    ·exact hs j hj
    ·simp at hj; rw [hj]; exact ht i (by simp)

theorem Mu {id:Nat} {o:AO} (h:WV o=true) (ho:be w U ρ id o):∃ v,ρ id=some v:=by
 cases o with
 | dead=>simp [WV] at h
 | box cs=>obtain ⟨b,T,vals,h1,_⟩:=ho; exact ⟨_,h1⟩
 | vec e l=>obtain ⟨a,c,h1,_⟩:=ho; exact ⟨_,h1⟩
 | frz e l=>obtain ⟨v,h1,_⟩:=ho; exact ⟨_,h1⟩
 | fmap es=>obtain ⟨r,ents,clock,h1,_⟩:=ho; exact ⟨_,h1⟩
 | vmap u es=>obtain ⟨r,ents,clock,h1,_⟩:=ho; exact ⟨_,h1⟩
 | hol e l i m=>obtain ⟨b,T,arr,c,h1,_⟩:=ho; exact ⟨_,h1⟩

theorem up {C:cH} {k:FuncId} {f:Func} {c:Code} {args:List AV} {vals:List Value} {h0:List AO} {Q:AV→List AO→Prop} (hf:E.P.funcs[k]?=some f) (hb:f.body=some c) (_:args.length≤f.ntmps)
  (hR:Reach E C k [.code c] (aq f.ntmps args h0) Q) (hr:cK w U ρ args vals) (hH:gY C w U ρ (fun j=>h0.getD j .dead)) (hnew:∀ id,h0.length≤id→ρ id=none) (hr0:∀ id v,C.ρ0 id=some v→ρ id=some v)
  (hW:Wd E.gl C w U):Calls E.P k vals.toArray w (J7 E C Q):=by
 intro cs
 let b:Frame:={ (default:Frame) with fn:=k,kind:=.normal }
 have henter:Frame.enter E.P k vals.toArray .normal=b.at { tmps:=vals.toArray++Array.replicate (f.ntmps - vals.toArray.size) undef,defers:=[] } [.code c]:=by
  simp [Frame.enter,Frame.at,hf,hb,b]
 rw [henter]
 refine hR b cs _ w U ρ rfl rfl ⟨?_,hH,hnew,rfl,hr0⟩ hW
 have hl:=hr.len
 simp only [aq,Array.toList_append,Array.toList_replicate,List.size_toArray]
 rw [← hl]
 refine hr.append ⟨by simp,fun j c v hc hv=>?_⟩
 have e1:c=.tup []:=by
  have:=iE hc
  simpa using (List.mem_replicate.1 this).2
 have e2:v=undef:=by
  have:=iE hv
  simpa using (List.mem_replicate.1 this).2
 rw [e1,e2]
 exact .tup [] [] rfl (by simp)

def Gm (E:bt) (k:FuncId) (args:List AV) (h0:List AO) (Q:AV→List AO→Prop):Prop:=
 ∀ (C:cH) (w:World) (U:Nat→Prop) (ρ:Nat→Option Value) (vals:List Value),(∀ id,h0.length≤id→C.ρ0 id=none)→cK w U ρ args vals→gY C w U ρ (fun j=>h0.getD j .dead)→(∀ id,h0.length≤id→ρ id=none)→
  (∀ id v,C.ρ0 id=some v→ρ id=some v)→Wd E.gl C w U→Calls E.P k vals.toArray w (J7 E C Q)

theorem Oc.calls {k:FuncId} {args:List AV} {h0:List AO} {Q:AV→List AO→Prop} (h:Oc E k args h0 Q):Gm E k args h0 Q:=by
 intro C w U ρ vals h1 h2 h3 h4 h5 h6
 obtain ⟨f,c,hf,hb,_,hl,hR⟩:=h
 exact up hf hb hl (hR C h1) h2 h3 h4 h5 h6

theorem fF {P:Program} {gl:Nat→AV} {k:FuncId} {kinds:List (Option Sh)} {G:cF kinds} (hfn:∃ fn,E.P.funcs[k]?=some fn∧(fn.name == "runtime.NumGoroutine")=false∧fn.body.isNone=false)
    (hG:∀ x h0 res,(G x h0).val=some res→Gm E k (gz kinds x) h0 (fun r h=>(r,h)=res)) (qp:E.P=P:=by rfl) (qg:E.gl=gl:=by rfl):mf P gl k (zU kinds G):=by
  subst qp qg
  refine ⟨hfn,?_⟩
  intro w U ρ hp n args vals f fp h hr hub hgl hfp hin hcl hn
  unfold zU at h
  split at h
  · rename_i ps hps
    simp only at h
    generalize hπ:iK hp 400 (AV.idsL (eO ps)) []=π at h
    generalize hz:eh kinds args=z at h
    split at h
    · rename_i hcond
      simp only [aL,cX,ae,Bool.not_eq_true',List.contains_eq_mem,decide_eq_false_iff_not] at hcond
      obtain ⟨⟨hclosed,hzz⟩,hππ⟩:=hcond
      split at h
      rotate_left
      · simp at h
      rename_i xs hxs
      have hxa:=rA kinds args ps xs hps hxs
      simp only [Tr.val_bind,eS] at h
      obtain ⟨⟨r,h'⟩,hGv,h⟩:=h
      unfold Hb at h
      split at h
      · rename_i hle
        simp only [Tr.val_ok,ao] at h
        simp only [iY,aL,cX,t8] at hclosed
        obtain ⟨⟨⟨hc1,hc2⟩,hc3⟩,_⟩:=hclosed
        have hnd:=wb hc3
        have hzfp:∀ i∈z,i∈fp:=fun i hi=>hin i (mQ kinds args i (by rw [hz]; exact hi))
        generalize hU1:(fun b=>U b∧¬ ∃ j∈z,zO ρ j (hp j) b)=U1
        have hU1sub:∀ b,U1 b→U b:=by intro b h; rw [← hU1] at h; exact h.1
        have hzU:∀ j∈z,∀ b,zO ρ j (hp j) b→¬ U1 b:=fun j hj b ho h=>by rw [← hU1] at h; exact h.2 ⟨j,hj,ho⟩
        have hpk:=il (w:=w) (U:=U) (ρ:=ρ) (U':=U1) (ρ':=fun j=>(π[j]?).bind ρ) (hp:=hp) (f:=fun i=>π.idxOf i) hU1sub kinds args vals ps hps hr
          (fun id hid=>⟨hfp.ob id (hzfp id (by rw [← hz]; exact hid)),hzU id (by rw [← hz]; exact hid)⟩)
          (fun id hid=>by
            have hlt:π.idxOf id < π.length:=List.idxOf_lt_length_iff.2 (hc1 id hid)
            rw [zJ hlt,List.getElem_idxOf hlt]
            rfl)
        obtain ⟨hargs,hobjin⟩:=hpk
        rw [← hxa] at hargs
        have hπfp:∀ i∈π,i∈fp:=by
          rw [← hπ]
          exact oJ hcl 400 _ [] (fun i hi=>hin i (hobjin i hi)) (by simp)
        have hat:∀ id∈π,((π[π.idxOf id]?).bind ρ)=ρ id:=by
          intro id hid
          have hlt:π.idxOf id < π.length:=List.idxOf_lt_length_iff.2 hid
          rw [zJ hlt,List.getElem_idxOf hlt]
          rfl
        let C:cH:={ w0:=w,U0:=U1,B0:=fun b=>∃ i∈π,zO ρ i (hp i) b,ρ0:=fun j=>(π[j]?).bind ρ }
        have hownU1:∀ i∈π,∀ b,zO ρ i (hp i) b→U1 b∧b < w.heap.size:=by
          intro i hi b ho
          have:=(hfp.ob i (hπfp i hi)).inU ho
          refine ⟨?_,this.2⟩
          rw [← hU1]
          refine ⟨this.1,fun ⟨j,hj,ho'⟩=>?_⟩
          have e:=hfp.inj i (hπfp i hi) j (hzfp j hj) b ho ho'
          subst e
          exact (hzz i hj).2 hi
        have hobj1:∀ i∈π,be w U1 ρ i (hp i):=fun i hi=>
          (hfp.ob i (hπfp i hi)).mono (bd _) (fun _ _ _=>rfl) (fun b _ h=>hU1sub b h) (fun _ _ h=>h) (fun b ho=>⟨rfl,(hownU1 i hi b ho).1⟩)
        have hheap:∀ j (hj:j < π.length),(π.map fun i=>(hp i).ren fun i=>π.idxOf i).getD j .dead=(hp π[j]).ren fun i=>π.idxOf i:=by
          intro j hj
          rw [aJ,de,zJ hj]
          rfl
        have hheap':∀ j,π.length≤j→(π.map fun i=>(hp i).ren fun i=>π.idxOf i).getD j .dead=.dead:=by
          intro j hj
          rw [aJ,dd (by simpa using hj)]
          rfl
        have hρl:∀ j (hj:j < π.length),((π[j]?).bind ρ)=ρ π[j]:=fun j hj=>by rw [zJ hj]; rfl
        have hown0:∀ j b,zO (fun j=>(π[j]?).bind ρ) j ((π.map fun i=>(hp i).ren fun i=>π.idxOf i).getD j .dead) b→∃ hj:j < π.length,zO ρ π[j] (hp π[j]) b:=by
          rintro j b ⟨ho,v,hv,hb⟩
          by_cases hlt:j < π.length
          · refine ⟨hlt,?_,v,by rw [← hρl j hlt]; exact hv,hb⟩
            rw [hheap j hlt,wh] at ho
            exact ho
          · rw [hheap' j (by omega)] at ho
            simp [AO.owns] at ho
        have hH0:gY C w U1 (fun j=>(π[j]?).bind ρ) (fun j=>(π.map fun i=>(hp i).ren fun i=>π.idxOf i).getD j .dead):=by
          refine ⟨fun j=>?_,fun j1 j2 b o1 o2=>?_,fun j b o=>?_⟩
          · by_cases hlt:j < π.length
            · rw [hheap j hlt]
              exact (hobj1 π[j] (dg hlt)).ren (hρl j hlt) (fun i hi=>hat i (hc2 π[j] (dg hlt) i hi))
            · rw [hheap' j (by omega)]; trivial
          · obtain ⟨l1,q1⟩:=hown0 j1 b o1
            obtain ⟨l2,q2⟩:=hown0 j2 b o2
            exact (List.getElem_inj hnd).1 (hfp.inj _ (hπfp _ (dg l1)) _ (hπfp _ (dg l2)) b q1 q2)
          · obtain ⟨l1,q1⟩:=hown0 j b o
            exact .inl ⟨π[j],dg l1,q1⟩
        have hW0:Wd E.gl C w U1:=⟨gu.refl w,fun _ _ _=>rfl,fun b hb=>hub b (hU1sub b hb),fun _ _ h=>h,fun _ _ h _=>h,fun g=>(hgl g).weak hU1sub⟩
        have hcalls:=hG _ _ _ hGv C w U1 _ vals (fun id hid=>by
            simp only [ye] at hid
            show (π[id]?).bind ρ=none
            rw [dd hid]; rfl) hargs hH0 (fun id hid=>by
            simp only [ye] at hid
            rw [dd hid]; rfl) (fun _ _ h=>h) hW0
        have hwrfp:∀ id o,(id,o)∈f.wr→id∈fp:=by
          intro id o hio
          rw [← h] at hio
          simp only [bn,fe] at hio
          rcases hio with ⟨p,hp',he⟩ | hio
          · have:p.1∈π:=(List.of_mem_zip hp').1
            cases he
            exact hπfp _ this
          · split at hio
            · simp at hio
            · exact hzfp id (cD hio).1
        refine ⟨hcalls.mono ?_,hwrfp⟩
        rintro e w' ⟨v,r',h'',U',ρ',rfl,hq,hrv,hH',hnew',hr0',hW'⟩
        cases hq
        by_cases hbor:(nQ r&&π.isEmpty&&h'.isEmpty)=true
        ·
          rw [if_pos hbor] at h
          simp only [aL,List.isEmpty_iff] at hbor
          obtain ⟨⟨hsc,rfl⟩,rfl⟩:=hbor
          simp at h
          subst h
          refine ⟨v,U,ρ,rfl,⟨hW'.ext,wT hsc hrv,by simp,by simp,fun _ _=>rfl,fun _ _ h=>h,fun b hb _=>hW'.same b hb (by simp [C]),fun b hb=>lQ (hub b hb) hW'.ext.sz,fun _ _ h=>h,fun _ _ h _=>h,by simp,by simp⟩⟩
        · rw [if_neg hbor] at h
          let ρf:Nat→Option Value:=fun id=>if n≤id∧id < n+(h'.length - π.length) then ρ' (π.length+(id - n)) else ρ id
          have hlive:∀ j (hj:j < π.length),ρ' j=ρ π[j]:=by
            intro j hj
            obtain ⟨x,hx⟩:=Mu (hππ π[j] (dg hj)).2 (hfp.ob π[j] (hπfp _ (dg hj)))
            rw [hx]
            exact hr0' j x (by show (π[j]?).bind ρ=some x; rw [hρl j hj]; exact hx)
          have hg:∀ j,j < h'.length→ρf (lv π n j)=ρ' j:=by
            intro j hj
            unfold lv
            split
            · rename_i hlt
              rw [aJ,zJ hlt]
              show (if n≤π[j]∧π[j] < n+(h'.length - π.length) then ρ' (π.length+(π[j] - n)) else ρ π[j])=ρ' j
              rw [if_neg (by have:=(hππ π[j] (dg hlt)).1; omega),hlive j hlt]
            · rename_i hge
              show (if n≤n+(j - π.length)∧n+(j - π.length) < n+(h'.length - π.length) then ρ' (π.length+(n+(j - π.length) - n)) else ρ (n+(j - π.length)))=ρ' j
              rw [if_pos (by omega),show π.length+(n+(j - π.length) - n)=j by omega]
          have hnwl:f.nw.length=h'.length - π.length:=by rw [← h]; simp
          have hrhon:∀ id x,ρ id=some x→ρf id=some x:=by
            intro id x hx
            show (if n≤id∧id < n+(h'.length - π.length) then ρ' (π.length+(id - n)) else ρ id)=some x
            rw [if_neg]
            · exact hx
            · rintro ⟨h1,h2⟩
              have:=hn (id - n) (by omega)
              rw [show n+(id - n)=id by omega,hx] at this
              cases this
          have hg':∀ j x,ρ' j=some x→ρf (lv π n j)=some x:=by
            intro j x hx
            by_cases hj:j < h'.length
            · rw [hg j hj]; exact hx
            · rw [hnew' j (by omega)] at hx; cases hx
          have hloc:∀ j (hj:j < h'.length),be w' U' ρf (lv π n j) (h'[j].ren (lv π n)):=by
            intro j hj
            have:=hH'.ob j
            rw [show h'.getD j .dead=h'[j] by simp [hj]] at this
            exact this.ren' (fun x hx=>hg' j x hx) (fun i _ x hx=>hg' i x hx)
          have hwr:∀ id o,(id,o)∈f.wr→(∃ j,∃ hj:j < h'.length,j < π.length∧id=lv π n j∧o=h'[j].ren (lv π n))∨(id∈z∧o=sW (hp id)):=by
            intro id o hio
            rw [← h] at hio
            simp only [bn,fe] at hio
            rcases hio with ⟨p,hp',he⟩ | hio
            · obtain ⟨j,hj,hjp⟩:=List.getElem_of_mem hp'
              have hj':j < π.length∧j < h'.length:=by rw [List.length_zip] at hj; omega
              rw [List.getElem_zip] at hjp
              subst hjp
              cases he
              refine .inl ⟨j,hj'.2,hj'.1,?_,rfl⟩
              simp [lv,hj'.1]
            · exact .inr (cD hio)
          have hnw:∀ (k:Nat) o,f.nw[k]?=some o→∃ hj:π.length+k < h'.length,n+k=lv π n (π.length+k)∧o=h'[π.length+k].ren (lv π n):=by
            intro k o hk
            rw [← h] at hk
            simp only [de,jI,dI] at hk
            obtain ⟨a,ha,rfl⟩:=hk
            obtain ⟨hj,ha⟩:=bM.1 ha
            exact ⟨hj,by unfold lv; rw [if_neg (by omega)]; omega,by rw [ha]⟩
          have hfz0:∀ (id:Nat),(sW (hp id)).owns=true→kG (hp id)=true→False:=by
            intro id h1 h2
            cases hh:hp id <;> rw [hh] at h1 h2 <;> simp [sW,AO.owns,kG] at h1 h2
          have key:∀ id o b,((id,o)∈f.wr∨(n≤id∧f.nw[id - n]?=some o))→zO ρf id o b→∃ j,id=lv π n j∧zO ρ' j (h'.getD j .dead) b:=by
            intro id o b hio ho
            have fin:∀ j (hj:j < h'.length),id=lv π n j→o=h'[j].ren (lv π n)→∃ j,id=lv π n j∧zO ρ' j (h'.getD j .dead) b:=by
              rintro j hj rfl rfl
              refine ⟨j,rfl,?_⟩
              obtain ⟨h1,x,h2,h3⟩:=ho
              rw [wh] at h1
              rw [hg j hj] at h2
              refine ⟨?_,x,h2,h3⟩
              rw [show h'.getD j .dead=h'[j] by simp [hj]]
              exact h1
            rcases hio with hio | ⟨hge,hio⟩
            · rcases hwr id o hio with ⟨j,hj,_,h1,h2⟩ | ⟨h1,rfl⟩
              · exact fin j hj h1 h2
              · exact (hfz0 id ho.1 (hzz id h1).1).elim
            · obtain ⟨hj,h1,h2⟩:=hnw _ o hio
              exact fin _ hj (by rw [← h1]; omega) h2
          have hB0:∀ b,C.B0 b→∃ id o,(id,o)∈f.wr∧zO ρ id (hp id) b:=by
            rintro b ⟨i,hi,ho⟩
            obtain ⟨j,hj,rfl⟩:=List.getElem_of_mem hi
            refine ⟨π[j],h'[j].ren (lv π n),?_,ho⟩
            rw [← h]
            simp only [bn,fe]
            refine .inl ⟨(π[j],h'[j]),?_,rfl⟩
            have:(π.zip h')[j]?=some (π[j],h'[j]):=by simp [List.getElem?_zip_eq_some,hj,lQ hj hle]
            exact iE this
          have hzwr:∀ i∈z,(i,sW (hp i))∈f.wr:=by
            intro i hi
            rw [← h]
            simp only [bn]
            exact .inr (nz hi)
          refine ⟨v,U',ρf,rfl,⟨hW'.ext,?_,?_,?_,?_,hrhon,?_,hW'.ub,?_,?_,?_,?_⟩⟩
          · rw [← h]; exact hrv.ren' (fun i _ x hx=>hg' i x hx)
          · intro id o hio
            rcases hwr id o hio with ⟨j,hj,_,rfl,rfl⟩ | ⟨hiz,rfl⟩
            · exact hloc j hj
            · refine (nv (hfp.ob id (hzfp id hiz)) (hzz id hiz).1 hU1sub (hzU id hiz)).mono hW'.ext.sz (fun b hb hnu=>?_) hW'.u1 hrhon (fun b ho=>(hfz0 id ho.1 (hzz id hiz).1).elim)
              exact hW'.same b hb (fun ⟨i,hi,ho⟩=>hnu (hownU1 i hi b ho).1)
          · intro k o hk
            obtain ⟨hj,h1,rfl⟩:=hnw k o hk
            rw [h1]; exact hloc _ hj
          · intro id hid
            show (if n≤id∧id < n+(h'.length - π.length) then ρ' (π.length+(id - n)) else ρ id)=ρ id
            rw [hnwl] at hid
            rw [if_neg (by omega)]
          · intro b hb hno
            refine hW'.same b hb (fun hB=>?_)
            obtain ⟨id,o,h1,h2⟩:=hB0 b hB
            exact hno id o h1 h2
          · intro b hb hu
            exact hU1sub b (hW'.u1 b hb hu)
          · intro b hb hu hno
            refine hW'.u2 b hb ?_ (fun hB=>?_)
            · show U1 b
              rw [← hU1]
              exact ⟨hu,fun ⟨j,hj,ho⟩=>hno j _ (hzwr j hj) ho⟩
            · obtain ⟨id,o,h1,h2⟩:=hB0 b hB
              exact hno id o h1 h2
          · intro id o b hio ho
            obtain ⟨j,_,hj⟩:=key id o b hio ho
            rcases hH'.blk j b hj with hB | hB
            · exact .inr (hB0 b hB)
            · exact .inl hB
          · intro id1 o1 id2 o2 b h1 h2 ho1 ho2
            obtain ⟨j1,e1,q1⟩:=key id1 o1 b h1 ho1
            obtain ⟨j2,e2,q2⟩:=key id2 o2 b h2 ho2
            rw [e1,e2,hH'.inj j1 j2 b q1 q2]
      · simp at h
    · simp at h
  · simp at h

theorem J5 {P:Program} {gl:Nat→AV} {k:FuncId} {kinds:List (Option Sh)} {G:cF kinds} (hfn:∃ fn,E.P.funcs[k]?=some fn∧(fn.name == "runtime.NumGoroutine")=false∧fn.body.isNone=false)
  (hG:∀ x h0 res,(G x h0).val=some res→Oc E k (gz kinds x) h0 (fun r h=>(r,h)=res)) (qp:E.P=P:=by rfl) (qg:E.gl=gl:=by rfl):mf P gl k (zU kinds G):=by
 subst qp qg
 exact fF hfn fun x h0 res hx=>(hG x h0 res hx).calls

end
end Cad
