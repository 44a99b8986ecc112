/- What each operation says: maps with texts as keys. What each operation says: all of them. -/
import Derived.Test.YtiefilkilbdpgaaGreatDoorS02
import Derived.MapKept
import Derived.Laws.BytesString
namespace Cad
open Go
section
variable {P:Program} {w:World} {U:Nat→Prop} {ρ:Nat→Option Value}

theorem tN (a b:zo):((⟨a.toArray⟩:ByteArray)==⟨b.toArray⟩)=(a==b):=by
 show (a.toArray==b.toArray)=(a==b)
 simp

abbrev ru (es:List (zo×AV)):List Value:=es.map fun p=>Value.string ⟨p.1.toArray⟩

theorem y2:∀ (es:List (zo×AV)) (ents:List MapEntry) (s:zo) (i:Nat),ents.map (·.key)=ru es→es.any (fun p=>p.1==s)=false→
  Instr.findNow .string (.string ⟨s.toArray⟩) ents i=some none
 | [],[],_,_,_,_=>rfl
 | [],_::_,_,_,h,_=>by simp at h
 | _::_,[],_,_,h,_=>by simp at h
 | p::es,e::ents,s,i,h,hn=>by
  simp only [ru,jO,List.cons.injEq] at h
  simp only [List.any_cons,Bool.or_eq_false_iff] at hn
  have hne:(s==p.1)=false:=by
   have:=hn.1
   simp only [jH,ne_eq] at this ⊢
   exact fun e=>this e.symm
  simp only [Instr.findNow,h.1,Instr.sameNow,tN,hne]
  exact y2 es ents s (i+1) h.2 hn.2

theorem y1:∀ (es:List (zo×AV)) (ents:List MapEntry) (s:zo) (i:Nat) (z:Tr ew) (f:ew),ents.map (·.key)=ru es→cK w U ρ (es.map (·.2)) (ents.map (·.val))→(Hd es s z).val=some f→
  (∃ j v av,Instr.findNow .string (.string ⟨s.toArray⟩) ents i=some (some (j,v))∧Rv w U ρ av v∧f={ val:=av })∨(Instr.findNow .string (.string ⟨s.toArray⟩) ents i=some none∧z.val=some f)
 | [],[],_,_,_,_,_,_,hv=>.inr ⟨rfl,hv⟩
 | [],_::_,_,_,_,_,h,_,_=>by simp at h
 | _::_,[],_,_,_,_,h,_,_=>by simp at h
 | p::es,e::ents,s,i,z,f,h,hr,hv=>by
  simp only [ru,jO,List.cons.injEq] at h
  obtain ⟨k,av⟩:=p
  simp only [Hd,Tr.val] at hv
  simp only [Instr.findNow,h.1,Instr.sameNow,tN]
  cases hk:s==k with
  | true=>
   rw [hk] at hv
   simp [ret] at hv
   subst hv
   exact .inl ⟨i,e.val,av,rfl,hr.rv 0 av e.val rfl rfl,rfl⟩
  | false=>
   rw [hk] at hv
   simp at hv
   refine y1 es ents s (i+1) z f h.2 ⟨by have:=hr.len; simpa using this,fun j c v hc hv'=>hr.rv (j+1) c v (by simpa using hc) (by simpa using hv')⟩ hv

theorem gu.allocO (w:World) (o:Obj):gu w (w.alloc o) where
 sz:=by rw [aH]; omega
 os:=rfl
 out:=rfl
 tape:=rfl
 fr:=fun a h=>Cu (aY w _ _ h)

theorem Ef.mkMap {n:Nat} {hp:Nat→AO} {o0:AO} (ho0:o0=.fmap []∨∃ u,o0=.vmap u []) (hub:∀ b,U b→b < w.heap.size) (hn:ρ n=none):
  Ef n hp { val:=.mp n,nw:=[o0] } w U ρ (.map (some w.heap.size)) (w.alloc (.map #[] 0)) (fun b=>U b∨b=w.heap.size) (j4 ρ n (.map (some w.heap.size))):=by
 have hu:∀ b,b < w.heap.size→(U b∨b=w.heap.size)→U b:=fun b hb h=>h.elim id (fun e=>by omega)
 refine ⟨gu.allocO w _,.mp n _ (by simp [j4]) rfl,by simp,?_,?_,du hn,fun b hb _=>aY w _ b hb,?_,fun b hb h=>hu b hb h,fun b _ h _=>.inl h,?_,?_⟩
 ·intro j o hj
  cases j with
  | succ j=>simp at hj
  | zero=>
   simp at hj; subst hj
   rcases ho0 with rfl | ⟨u,rfl⟩
   ·exact ⟨w.heap.size,#[],0,by simp [j4],.inr rfl,dp w _,⟨rfl,by simp⟩,rfl⟩
   ·exact ⟨w.heap.size,#[],0,by simp [j4],.inr rfl,dp w _,rfl,by simp,rfl,by simp⟩
 ·intro id h
  unfold j4
  rw [if_neg (by simp at h; omega)]
 ·intro b h
  rw [aH]
  rcases h with h | h
  ·have:=hub b h; omega
  ·omega
 ·rintro id o b (h | ⟨h1,h2⟩) ho
  ·simp at h
  ·have e1:id - n < 1:=by have:=(bM.1 h2).1; simpa using this
   have hid:id=n:=by omega
   subst hid
   obtain ⟨_,v,hv,hb⟩:=ho
   simp [j4] at hv; subst hv
   simp [c9] at hb
   exact .inl (by omega)
 ·rintro id1 o1 id2 o2 b (h | ⟨h1,h2⟩) (h' | ⟨h1',h2'⟩) _ _
  ·simp at h
  ·simp at h
  ·simp at h'
  ·have e1:id1 - n < 1:=by have:=(bM.1 h2).1; simpa using this
   have e2:id2 - n < 1:=by have:=(bM.1 h2').1; simpa using this
   omega

/-! Keys that are values. -/

def Wz (k:Int×Int×zo):AV:=.agg [.int .i64 k.1,.int .i64 k.2.1,.str k.2.2]

theorem Ca {a:AV} {k:Int×Int×zo} (h:JJ a=some k):a=Wz k:=by
 unfold JJ at h
 split at h
 ·cases h; rfl
 ·cases h

theorem Fo {k:Int×Int×zo} {v:Value} (h:Rv w U ρ (Wz k) v):v=eV k∧pi k:=by
 unfold Wz at h
 cases h with
 | agg _ vs hl h1 hr=>
 match vs,hl,hr with
 | [v1,v2,v3],_,hr=>
  have e1:=hr 0 _ v1 rfl rfl
  have e2:=hr 1 _ v2 rfl rfl
  have e3:=hr 2 _ v3 rfl rfl
  cases e1 with
  | int _ _ q1=>
  cases e2 with
  | int _ _ q2=>
  cases e3 with
  | str _ q3=>
  exact ⟨rfl,q1,q2,q3⟩

theorem ND {k:Int×Int×zo} (h:pi k):Rv w U ρ (Wz k) (eV k):=by
 refine .agg _ [.int .i64 k.1,.int .i64 k.2.1,.string ⟨k.2.2.toArray⟩] rfl (by simp [Value.oneCell']) ?_
 intro j c v hc hv
 match j,hc,hv with
 | 0,hc,hv=>cases hc; cases hv; exact .int _ _ h.1
 | 1,hc,hv=>cases hc; cases hv; exact .int _ _ h.2.1
 | 2,hc,hv=>cases hc; cases hv; exact .str _ h.2.2

theorem N4 {kt:TypeId} (h:mc P kt=true) (a b:Int×Int×zo):Yf P kt (Wz a) (Wz b)=some (a==b):=by
 unfold mc at h
 split at h
 ·rename_i fs hu
  simp only [aL] at h
  obtain ⟨⟨h1,h2⟩,h3⟩:=h
  split at h3
  ·rename_i f1 f2 f3 hfs
   simp only [aL,eT,Bi,Fk] at h3
   obtain ⟨⟨⟨⟨n1,o1⟩,t1⟩,⟨⟨n2,o2⟩,t2⟩⟩,⟨⟨n3,o3⟩,t3⟩⟩:=h3
   split at t1
   ·rename_i k1 u1
    split at t2
    ·rename_i k2 u2
     split at t3
     ·rename_i u3
      simp only [Wz,Yf,hu,h1,h2,hfs,xD,n1,o1,n2,o2,n3,o3,Sw,u1,u2,u3,beq_self_eq_true,og,if_true,Bool.and_true]
      rfl
     ·cases t3
    ·cases t2
   ·cases t1
  ·cases h3
 ·cases h

theorem DS {kt:TypeId} (h:mc P kt=true) {a b:Int×Int×zo} (ha:pi a) (hb:pi b):(Op.equal kt (eV a) (eV b)).run P w=.ok (a==b) w:=
 (E3 (U:=fun _=>False) (ρ:=fun _=>none) (N4 h a b) (ND ha) (ND hb) (by intro _ _ _ _ h; cases h) (by intro _ _ h; cases h)).1

theorem dF {kt:TypeId} (h:mc P kt=true) (k:Int×Int×zo) (em:Bool):(Instr.checkKey em 10000 kt (eV k)).run P w=.ok () w:=by
 unfold mc at h
 split at h
 ·rename_i fs hu
  simp only [aL] at h
  obtain ⟨⟨h1,h2⟩,h3⟩:=h
  split at h3
  ·rename_i f1 f2 f3 hfs
   simp only [aL,eT,Bi,Fk] at h3
   obtain ⟨⟨⟨⟨n1,o1⟩,t1⟩,⟨⟨n2,o2⟩,t2⟩⟩,⟨⟨n3,o3⟩,t3⟩⟩:=h3
   split at t1
   ·rename_i k1 u1
    split at t2
    ·rename_i k2 u2
     split at t3
     ·rename_i u3
      have e:fs = #[f1,f2,f3]:=by apply km; simpa using hfs
      subst e
      have a1:w7 P f1.type=some false:=by simp [w7,u1]
      have a2:w7 P f2.type=some false:=by simp [w7,u2]
      have a3:w7 P f3.type=some false:=by simp [w7,u3]
      show (Instr.checkKey em (9999+1) kt (eV k)).run P w=_
      rw [Instr.checkKey.eq_2]
      have p1:(part f1.type #[Value.int .i64 k.1,.int .i64 k.2.1,.string ⟨k.2.2.toArray⟩] f1.offset).run P w=.ok (.int .i64 k.1) w:=by simp [part,iq a1,o1]
      have p2:(part f2.type #[Value.int .i64 k.1,.int .i64 k.2.1,.string ⟨k.2.2.toArray⟩] f2.offset).run P w=.ok (.int .i64 k.2.1) w:=by simp [part,iq a2,o2]
      have p3:(part f3.type #[Value.int .i64 k.1,.int .i64 k.2.1,.string ⟨k.2.2.toArray⟩] f3.offset).run P w=.ok (.string ⟨k.2.2.toArray⟩) w:=by simp [part,iq a3,o3]
      have c1:(Instr.checkKey em (9998+1) f1.type (.int .i64 k.1)).run P w=.ok () w:=by
       rw [Instr.checkKey.eq_2]; simp [aW u1,Result.andThen]
      have c2:(Instr.checkKey em (9998+1) f2.type (.int .i64 k.2.1)).run P w=.ok () w:=by
       rw [Instr.checkKey.eq_2]; simp [aW u2,Result.andThen]
      have c3:(Instr.checkKey em (9998+1) f3.type (.string ⟨k.2.2.toArray⟩)).run P w=.ok () w:=by
       rw [Instr.checkKey.eq_2]; simp [aW u3,Result.andThen]
      have m1:f1.name ≠ "_" := by simpa using n1
      have m2:f2.name ≠ "_" := by simpa using n2
      have m3:f3.name ≠ "_" := by simpa using n3
      simp [eV,aW hu,Result.andThen,p1,p2,p3,c1,c2,c3,m1,m2,m3]
     ·cases t3
    ·cases t2
   ·cases t1
  ·cases h3
 ·cases h

def eH (es:List ((Int×Int×zo)×Int)) (k:Int×Int×zo) (i:Nat):Option (Nat×Int):=match es with
 | []=>none
 | p::r=>bif k==p.1 then some (i,p.2) else eH r k (i+1)

abbrev AZ (u:Bool) (es:List ((Int×Int×zo)×Int)):List (Value×Value):=es.map fun p=>(eV p.1,pE u p.2)

theorem kM {kt:TypeId} (h:mc P kt=true) {k:Int×Int×zo} (hk:pi k) (u:Bool):∀ (es:List ((Int×Int×zo)×Int)) (ents:List MapEntry) (i:Nat),(ents.map fun e=>(e.key,e.val))=AZ u es→(∀ p∈es,ch .i64 p.2∧pi p.1)→
  (Instr.findAsking kt (eV k) ents i).run P w=.ok ((eH es k i).map fun q=>(q.1,pE u q.2)) w
 | [],[],_,_,_=>by simp [Instr.findAsking,eH]
 | [],_::_,_,h,_=>by simp at h
 | _::_,[],_,h,_=>by simp at h
 | p::es,e::ents,i,he,ho=>by
  simp only [AZ,jO,List.cons.injEq,bC] at he
  obtain ⟨⟨e1,e2⟩,e3⟩:=he
  have hp:=ho p (ud ..)
  have ih:=kM h hk u es ents (i+1) e3 (fun q hq=>ho q (ms _ hq))
  simp only [Instr.findAsking,e1,cZ,DS h hk hp.2,jj,eH]
  cases hq:k==p.1
  ·simpa using ih
  ·simp [e2]

theorem kd {kt:TypeId} (h:mc P kt=true) {k:Int×Int×zo} (hk:pi k) (u:Bool) (es:List ((Int×Int×zo)×Int)) (ents:List MapEntry) (he:(ents.map fun e=>(e.key,e.val))=AZ u es) (ho:∀ p∈es,ch .i64 p.2∧pi p.1):
  (Instr.findKey kt (eV k) ents).run P w=.ok ((eH es k 0).map fun q=>(q.1,pE u q.2)) w:=by
 have hu:∃ fs,P.underlying kt=some (.struct fs):=by
  unfold mc at h
  split at h
  ·rename_i fs hu; exact ⟨fs,hu⟩
  ·cases h
 obtain ⟨fs,hu⟩:=hu
 have hf:=kM (w:=w) h hk u es ents 0 he ho
 cases ents with
 | nil=>
  cases es with
  | nil=>simp [Instr.findKey,aW hu,Result.andThen,Instr.findNow,eH]
  | cons p r=>simp at he
 | cons e r=>
  have hs:Instr.findNow (.struct fs) (eV k) (e::r) 0=none:=by
   simp only [Instr.findNow]
   have:Instr.sameNow (.struct fs) (eV k) e.key=none:=by simp [Instr.sameNow]
   rw [this]
  simp only [Instr.findKey,cZ,aW hu,jj,hs]
  exact hf

theorem jC:∀ {es:List ((Int×Int×zo)×Int)} {k:Int×Int×zo} {i:Nat},eH es k i=none→fN es k=false∧eY es k=0∧∀ x,iC es k x=es++[(k,x)]
 | [],_,_,_=>⟨rfl,rfl,fun _=>rfl⟩
 | p::r,k,i,h=>by
  unfold eH at h
  cases hq:k==p.1
  ·rw [hq] at h
   obtain ⟨h1,h2,h3⟩:=jC (i:=i+1) (by simpa using h)
   refine ⟨by simpa [fN,hq] using h1,by simpa [eY,hq] using h2,fun x=>?_⟩
   rw [iC,hq,h3]
   rfl
  ·rw [hq] at h; cases h

theorem jD:∀ {es:List ((Int×Int×zo)×Int)} {k:Int×Int×zo} {i j:Nat} {n:Int},eH es k i=some (j,n)→i≤j∧fN es k=true∧eY es k=n∧(∃ p,es[j - i]?=some p∧p.1=k∧p.2=n)∧∀ x,iC es k x=es.set (j - i) (k,x)
 | [],_,_,_,_,h=>by cases h
 | p::r,k,i,j,n,h=>by
  unfold eH at h
  cases hq:k==p.1
  ·rw [hq] at h
   obtain ⟨h0,h1,h2,⟨q,h4,h5⟩,h3⟩:=jD (i:=i+1) (by simpa using h)
   have e:j - i=(j - (i+1))+1:=by omega
   refine ⟨by omega,by simpa [fN] using .inr (by simpa [fN] using h1),by simpa [eY,hq] using h2,⟨q,by rw [e]; simpa using h4,h5⟩,fun x=>?_⟩
   rw [iC,hq,h3,e]
   rfl
  ·rw [hq] at h
   simp only [bR,ao,bC] at h
   obtain ⟨rfl,rfl⟩:=h
   have hk:k=p.1:=by simpa using hq
   refine ⟨bd _,by simp [fN,hq],by simp [eY,hq],⟨p,by simp,hk.symm,rfl⟩,fun x=>?_⟩
   rw [iC,hq]
   simp

theorem oC (k:Int×Int×zo):Instr.sameBits 10000 (eV k) (eV k)=true:=by
 show Instr.sameBits (9999+1) (eV k) (eV k)=true
 simp [eV,Instr.sameBits,tN]

theorem Ef.setMap {n:Nat} {hp:Nat→AO} {id r:Nat} {ents ents':Array MapEntry} {clock clock':Nat} {o':AO} (h1:ρ id=some (.map (some r))) (_:U r) (h3:w.heap[r]?=some (.map ents clock)) (hown:(hp id).owns=true)
  (hok:be { w with heap:=w.heap.setIfInBounds r (.map ents' clock') } U ρ id o') (hub:∀ b,U b→b < w.heap.size) {rv:AV} {vv:Value} (hrv:Rv { w with heap:=w.heap.setIfInBounds r (.map ents' clock') } U ρ rv vv):
  Ef n hp { val:=rv,wr:=[(id,o')] } w U ρ vv { w with heap:=w.heap.setIfInBounds r (.map ents' clock') } U ρ:=by
 obtain ⟨e1,e2⟩:=uf (o':=Obj.map ents' clock') h3
 have hrlt:r < w.heap.size:=(ua.1 h3).1
 have hown':zO ρ id (hp id) r:=⟨hown,_,h1,rfl⟩
 refine ⟨⟨by simp,rfl,rfl,rfl,?_⟩,hrv,?_,by simp,fun _ _=>rfl,fun _ _ h=>h,?_,?_,fun _ _ h=>h,fun _ _ h _=>h,?_,?_⟩
 ·intro a _
  by_cases hab:a.block=r
  ·unfold World.frozen?
   simp only [hab,e1,h3]
  ·exact Cu (e2 a.block hab)
 ·intro id' o'' h'
  simp only [bO,bC] at h'
  obtain ⟨rfl,rfl⟩:=h'
  exact hok
 ·intro b _ hno
  by_cases hbr:b=r
  ·exfalso
   exact hno id o' (bO.2 rfl) (hbr▸hown')
  ·exact e2 b hbr
 ·intro b hb
  have:=hub b hb
  simpa using this
 ·rintro id' o'' b (h' | ⟨_,h'⟩) ho'
  ·simp only [bO,bC] at h'
   obtain ⟨rfl,rfl⟩:=h'
   refine .inr ⟨id',_,bO.2 rfl,?_⟩
   obtain ⟨_,v,hv,hb⟩:=ho'
   exact ⟨hown,v,hv,hb⟩
  ·simp at h'
 ·rintro id1 o1 id2 o2 b (h' | ⟨_,h'⟩) (h'' | ⟨_,h''⟩) _ _
  ·simp only [bO,bC] at h' h''
   rw [h'.1,h''.1]
  ·simp at h''
  ·simp at h'
  ·simp at h'

theorem QJ {u:Bool} {a:AV} {n:Int} {v:Value} (h:X9 u a=some n) (hr:Rv w U ρ a v):v=pE u n∧ch .i64 n:=by
 unfold X9 at h
 split at h
 ·cases h
  cases hr with
  | int _ _ h1=>exact ⟨rfl,h1⟩
 ·cases h
  cases hr with
  | agg _ vs hl h1 hr=>
  match vs,hl with
  | [],_=>exact ⟨rfl,by unfold ch; decide⟩
 ·cases h

theorem kZ.push {ents:Array MapEntry} {clock:Nat} (h:kZ ents clock) (k v:Value):kZ (ents.push { key:=k,val:=v,born:=clock }) (clock+1):=by
 refine ⟨by simp [h.1],fun i e he=>?_⟩
 rw [Array.getElem?_push] at he
 split at he
 ·rename_i hi
  cases he
  rw [hi]; exact h.1
 ·exact h.2 i e he

theorem kZ.modify {ents:Array MapEntry} {clock:Nat} (h:kZ ents clock) (j:Nat) (f:MapEntry→MapEntry) (hf:∀ e,(f e).born=e.born):kZ (ents.modify j f) clock:=by
 refine ⟨by simp [h.1],fun i e he=>?_⟩
 rw [x5] at he
 split at he
 ·cases hx:ents[i]? with
  | none=>rw [hx] at he; simp at he
  | some e0=>
   rw [hx] at he
   simp at he
   subst he
   rw [hf]; exact h.2 i e0 hx
 ·exact h.2 i e he

theorem sk {n:Nat} {hp:Nat→AO} {t:TypeId} {am ak ax:AV} {vm vk vx:Value} {f:ew} {fp:List Nat} (h:(pK P hp t am ak ax).val=some f)
  (hm:Rv w U ρ am vm) (hk:Rv w U ρ ak vk) (hx:Rv w U ρ ax vx) (hub:∀ b,U b→b < w.heap.size) (hfp:tR w U ρ hp fp) (hin:∀ id∈am.ids,id∈fp):
  ∃ w',(Instr.mapUpdate t vm vk vx).run P w=.ok () w'∧Ef n hp f w U ρ undef w' U ρ∧∀ id o,(id,o)∈f.wr→id∈fp:=by
 unfold pK at h
 split at h
 ·rename_i kt et ht
  split at h
  ·rename_i hkt
   split at h
   ·rename_i id s
    have hid:=hin id (by simp [AV.ids])
    have ho:=hfp.ob id hid
    split at h
    ·rename_i es hes
     simp only [Tr.val] at h
     split at h
     ·rename_i hnone
      simp only [Bool.not_eq_true'] at hnone
      simp only [ao] at h
      subst h
      rw [hes] at ho
      obtain ⟨r,ents,clock,h1,h2,h3,h4,h5⟩:=ho
      cases hm with
      | mp _ _ hv _=>
      rw [h1] at hv; cases hv
      cases hk with
      | str _ hs=>
      have hf:=y2 es ents.toList s 0 h5 hnone
      obtain ⟨e1,e2⟩:=uf (o':=Obj.map (ents.push { key:=.string ⟨s.toArray⟩,val:=vx,born:=clock }) (clock+1)) h3
      have hrlt:r < w.heap.size:=(ua.1 h3).1
      have hown:zO ρ id (hp id) r:=⟨by rw [hes]; rfl,_,h1,rfl⟩
      have hkk:∀ b',b' < w.heap.size→¬ U b'→(w.heap.setIfInBounds r (Obj.map (ents.push { key:=.string ⟨s.toArray⟩,val:=vx,born:=clock }) (clock+1)))[b']?=w.heap[b']?:=fun b' _ hb'=>e2 b' (fun e=>hb' (e▸h2))
      refine ⟨{ w with heap:=w.heap.setIfInBounds r (.map (ents.push { key:=.string ⟨s.toArray⟩,val:=vx,born:=clock }) (clock+1)) },?_,?_,?_⟩
      ·simp [Instr.mapUpdate,aW ht,kl h3,Cv hkt (k:=.string ⟨s.toArray⟩) trivial,Cw hkt hf,x4 _ h3,Result.andThen]
      ·refine ⟨⟨by simp,rfl,rfl,rfl,?_⟩,.tup [] [] rfl (by simp),?_,by simp,fun _ _=>rfl,fun _ _ h=>h,?_,?_,fun _ _ h=>h,fun _ _ h _=>h,?_,?_⟩
       ·intro a _
        by_cases hab:a.block=r
        ·unfold World.frozen?
         simp only [hab,e1,h3]
        ·exact Cu (e2 a.block hab)
       ·intro id' o' h'
        simp only [bO,bC] at h'
        obtain ⟨rfl,rfl⟩:=h'
        refine ⟨r,_,_,h1,h2,e1,?_,?_⟩
        ·have hm1:cK { w with heap:=w.heap.setIfInBounds r (.map (ents.push { key:=.string ⟨s.toArray⟩,val:=vx,born:=clock }) (clock+1)) } U ρ (es.map (·.2)) (ents.toList.map (·.val)):=
          h4.mono (by simp) hkk (fun _ _ h=>h) (fun _ _ h=>h)
         have hx1:Rv { w with heap:=w.heap.setIfInBounds r (.map (ents.push { key:=.string ⟨s.toArray⟩,val:=vx,born:=clock }) (clock+1)) } U ρ ax vx:=
          hx.mono (by simp) hkk (fun _ _ h=>h) (fun _ _ h=>h)
         refine ⟨by have:=hm1.len; simp at this ⊢; exact this,fun j c v hc hv=>?_⟩
         simp only [List.map_append,jO,ui,Array.toList_push] at hc hv
         by_cases hj:j < (es.map (·.2)).length
         ·rw [j6 hj] at hc
          rw [j6 (by rw [← hm1.len]; exact hj)] at hv
          exact hm1.rv j c v hc hv
         ·rw [lc (by omega)] at hc
          rw [lc (by rw [← hm1.len]; omega),← hm1.len] at hv
          cases hj0:j - (es.map (·.2)).length with
          | zero=>
           rw [hj0] at hc hv
           simp at hc hv
           subst hc; subst hv
           exact hx1
          | succ q=>rw [hj0] at hc; simp at hc
        ·simp only [Array.toList_push,List.map_append,h5,jO,ui]
       ·intro b _ hno
        exact e2 b (fun e=>hno id (.fmap (es++[(s,ax)])) (bO.2 rfl) (e▸hown))
       ·intro b hb
        have:=hub b hb
        simpa using this
       ·rintro id' o' b (h' | ⟨_,h'⟩) ho'
        ·simp only [bO,bC] at h'
         obtain ⟨rfl,rfl⟩:=h'
         refine .inr ⟨id',_,bO.2 rfl,?_⟩
         obtain ⟨_,v,hv,hb⟩:=ho'
         exact ⟨by rw [hes]; rfl,v,hv,hb⟩
        ·simp at h'
       ·rintro id1 o1 id2 o2 b (h' | ⟨_,h'⟩) (h'' | ⟨_,h''⟩) _ _
        ·simp only [bO,bC] at h' h''
         rw [h'.1,h''.1]
        ·simp at h''
        ·simp at h'
        ·simp at h'
      ·intro id' o' h'
       simp only [bO,bC] at h'
       rw [h'.1]; exact hid
     ·cases h
    ·simp at h
   ·simp at h
  ·split at h
   ·rename_i hvk
    split at h
    ·rename_i id v hvk2
     have hid:=hin id (by simp [AV.ids])
     have ho:=hfp.ob id hid
     split at h
     ·rename_i u es hes
      split at h
      ·rename_i nn hnn
       simp only [Tr.val_ok,ao] at h
       subst h
       rw [hes] at ho
       obtain ⟨r,ents,clock,h1,h2,h3,h4,h5⟩:=ho
       cases hm with
       | mp _ _ hv _=>
       rw [h1] at hv; cases hv
       rw [Ca hvk2] at hk
       obtain ⟨rfl,hko⟩:=Fo hk
       obtain ⟨rfl,hno⟩:=QJ hnn hx
       have hfk:=kd (w:=w) hvk hko u es ents.toList h4 h5.1
       have hown:(hp id).owns=true:=by rw [hes]; rfl
       have hwrs:∀ id' o',(id',o')∈[(id,AO.vmap u (iC es v nn))]→id'∈fp:=by
        intro id' o' h'
        simp only [bO,bC] at h'
        rw [h'.1]; exact hid
       cases hfi:eH es v 0 with
       | none=>
        rw [hfi] at hfk
        obtain ⟨_,_,hput⟩:=jC hfi
        refine ⟨{ w with heap:=w.heap.setIfInBounds r (.map (ents.push { key:=eV v,val:=pE u nn,born:=clock }) (clock+1)) },?_,?_,hwrs⟩
        ·simp [Instr.mapUpdate,aW ht,kl h3,dF hvk,hfk,x4 _ h3,Result.andThen]
        ·refine Ef.setMap h1 h2 h3 hown ?_ hub (.tup [] [] rfl (by simp))
         refine ⟨r,_,_,h1,h2,(uf h3).1,?_,?_,h5.2.push _ _⟩
         ·rw [hput]
          simp only [Array.toList_push,List.map_append,h4,jO,ui]
         ·rw [hput]
          intro p hp
          rcases bn.1 hp with hp | hp
          ·exact h5.1 p hp
          ·simp at hp; subst hp; exact ⟨hno,hko⟩
       | some q=>
        obtain ⟨j,m⟩:=q
        rw [hfi] at hfk
        obtain ⟨_,_,_,⟨p,hpj,hpk,hpn⟩,hput⟩:=jD hfi
        rw [Nat.sub_zero] at hpj hput
        have hent:∃ e,ents.toList[j]?=some e∧e.key=eV v:=by
         have:(ents.toList.map fun e=>(e.key,e.val))[j]?=some (eV p.1,pE u p.2):=by
          rw [h4]; simp [hpj]
         rw [de,dI] at this
         obtain ⟨e,he1,he2⟩:=this
         simp only [bC] at he2
         exact ⟨e,he1,by rw [he2.1,hpk]⟩
        obtain ⟨e,he1,he2⟩:=hent
        have he3:ents[j]?=some e:=by rw [← rU]; exact he1
        refine ⟨{ w with heap:=w.heap.setIfInBounds r (.map (ents.modify j fun e=>{ e with key:=eV v,val:=pE u nn }) clock) },?_,?_,hwrs⟩
        ·have hst:(Instr.keyThatStays (eV v) (eV v)).run P w=.ok (eV v) w:=by
          simp [Instr.keyThatStays,oC]
         simp [Instr.mapUpdate,aW ht,kl h3,dF hvk,hfk,he3,he2,hst,x4 _ h3,Result.andThen]
        ·refine Ef.setMap h1 h2 h3 hown ?_ hub (.tup [] [] rfl (by simp))
         refine ⟨r,_,_,h1,h2,(uf h3).1,?_,?_,h5.2.modify _ _ (fun _=>rfl)⟩
         ·rw [hput]
          apply x8
          intro q
          have h4q:(ents.toList.map fun e=>(e.key,e.val))[q]?=(AZ u es)[q]?:=by rw [h4]
          simp only [de,rU,x5,jJ,AZ] at h4q ⊢
          by_cases hq:j=q
          ·subst hq
           have hjl:j < es.length:=(bM.1 hpj).1
           simp [he3,hjl]
          ·simp only [hq,if_false]
           rw [h4q]
         ·rw [hput]
          intro p' hp'
          rcases mr hp' with hp' | rfl
          ·exact h5.1 p' hp'
          ·exact ⟨hno,hko⟩
      ·simp at h
     ·simp at h
    ·simp at h
   ·simp at h
  ·simp at h
 ·simp at h

theorem vN:∀ (es:List (zo×AV)) (ents:List MapEntry) (s:zo) (i:Nat) (z:Tr ew) (f:ew),ents.map (·.key)=ru es→cK w U ρ (es.map (·.2)) (ents.map (·.val))→(Bm es s z).val=some f→
  (∃ j v av,Instr.findNow .string (.string ⟨s.toArray⟩) ents i=some (some (j,v))∧Rv w U ρ av v∧f={ val:=.tup [av,.kb true] })∨(Instr.findNow .string (.string ⟨s.toArray⟩) ents i=some none∧z.val=some f)
 | [],[],_,_,_,_,_,_,hv=>.inr ⟨rfl,hv⟩
 | [],_::_,_,_,_,_,h,_,_=>by simp at h
 | _::_,[],_,_,_,_,h,_,_=>by simp at h
 | p::es,e::ents,s,i,z,f,h,hr,hv=>by
  simp only [ru,jO,List.cons.injEq] at h
  obtain ⟨k,av⟩:=p
  simp only [Bm,Tr.val] at hv
  simp only [Instr.findNow,h.1,Instr.sameNow,tN]
  cases hk:s==k with
  | true=>
   rw [hk] at hv
   simp [ret] at hv
   subst hv
   exact .inl ⟨i,e.val,av,rfl,hr.rv 0 av e.val rfl rfl,rfl⟩
  | false=>
   rw [hk] at hv
   simp at hv
   refine vN es ents s (i+1) z f h.2 ⟨by have:=hr.len; simpa using this,fun j c v hc hv'=>hr.rv (j+1) c v (by simpa using hc) (by simpa using hv')⟩ hv

theorem nO {a b:AV} {x y:Value} (ha:Rv w U ρ a x) (hb:Rv w U ρ b y):Rv w U ρ (.tup [a,b]) (.tuple #[x,y]):=by
 refine .tup _ [x,y] rfl ?_
 intro j c v hc hv
 match j,hc,hv with
 | 0,hc,hv=>cases hc; cases hv; exact ha
 | 1,hc,hv=>cases hc; cases hv; exact hb

theorem kS {et:TypeId} {z:AV} (hz:oH P et=some z):∃ i zv,P.info? et=some i∧i.zero=some zv∧z=t7 zv:=by
 unfold oH at hz
 split at hz
 ·rename_i i hinfo
  simp only [dI] at hz
  obtain ⟨zv,hz1,rfl⟩:=hz
  exact ⟨i,zv,hinfo,hz1,rfl⟩
 ·cases hz

theorem J9 {zv:Value} {k:IntKind} {n:Int} (h:Cp zv=.int k n):zv=.int k n:=by
 unfold Cp at h
 split at h
 case h_2 k' n'=>
  split at h
  ·simp at h; obtain ⟨rfl,rfl⟩:=h; rfl
  ·cases h
 case h_3=>split at h <;> cases h
 all_goals cases h

theorem Cq {zv:Value} {k:IntKind} {n:Int} (h:t7 zv=.int k n):zv=.int k n:=by
 unfold t7 at h
 split at h
 ·split at h <;> cases h
 ·exact J9 h

theorem Ij {zv:Value} {cs:List AV} (h:t7 zv=.agg cs) (h0:cs.isEmpty=true):zv=.agg #[]:=by
 unfold t7 at h
 split at h
 ·rename_i cs'
  split at h
  ·simp at h
   subst h
   simp at h0
   rw [h0]
  ·cases h
 ·unfold Cp at h
  split at h
  case h_2=>split at h <;> cases h
  case h_3=>split at h <;> cases h
  all_goals cases h

theorem Dc {hp:Nat→AO} {t:TypeId} {ax ai:AV} {vx vi:Value} {two:Bool} {f:ew} (h:(jp P hp t ax ai two).val=some f) (hx:Rv w U ρ ax vx) (hi:Rv w U ρ ai vi) (hob:∀ id∈ax.ids,be w U ρ id (hp id)):
  ∃ r v,f={ val:=r }∧(Instr.lookup t vx vi two).run P w=.ok v w∧Rv w U ρ r v:=by
 unfold jp at h
 split at h
 ·rename_i kt et ht
  split at h
  ·rename_i hkt
   split at h
   ·rename_i id s
    have ho:=hob id (by simp [AV.ids])
    split at h
    ·rename_i es hes
     rw [hes] at ho
     obtain ⟨r,ents,clock,h1,h2,h3,h4,h5⟩:=ho
     cases hx with
     | mp _ _ hv _=>
     rw [h1] at hv; cases hv
     cases hi with
     | str _ hs=>
     cases two with
     | false=>
      simp only [zH,if_false] at h
      rcases y1 es ents.toList s 0 _ f h5 h4 h with ⟨j,v,av,hf,hr,rfl⟩ | ⟨hf,hz⟩
      ·refine ⟨av,v,rfl,?_,hr⟩
       simp [Instr.lookup,aW ht,kl h3,Cv hkt (k:=.string ⟨s.toArray⟩) trivial,Cw hkt hf,Result.andThen]
      ·simp at hz
       obtain ⟨z,hz,rfl⟩:=hz
       obtain ⟨i,zv,hinfo,hz1,rfl⟩:=kS hz
       refine ⟨_,zv,rfl,?_,k9 zv⟩
       simp [Instr.lookup,aW ht,kl h3,Cv hkt (k:=.string ⟨s.toArray⟩) trivial,Cw hkt hf,Result.andThen,zeroValue,typeInfo,hinfo,hz1]
     | true=>
      simp only [if_true] at h
      rcases vN es ents.toList s 0 _ f h5 h4 h with ⟨j,v,av,hf,hr,rfl⟩ | ⟨hf,hz⟩
      ·refine ⟨_,.tuple #[v,.bool true],rfl,?_,nO hr (.kb true)⟩
       simp [Instr.lookup,aW ht,kl h3,Cv hkt (k:=.string ⟨s.toArray⟩) trivial,Cw hkt hf,Result.andThen]
      ·unfold Te at hz
       split at hz
       ·rename_i z hz0
        simp [ret] at hz
        subst hz
        obtain ⟨i,zv,hinfo,hz1,rfl⟩:=kS hz0
        refine ⟨_,.tuple #[zv,.bool false],rfl,?_,nO (k9 zv) (.kb false)⟩
        simp [Instr.lookup,aW ht,kl h3,Cv hkt (k:=.string ⟨s.toArray⟩) trivial,Cw hkt hf,Result.andThen,zeroValue,typeInfo,hinfo,hz1]
       ·simp at hz
    ·simp at h
   ·simp at h
  ·split at h
   ·rename_i hvk
    split at h
    ·rename_i id v hvk2
     have ho:=hob id (by simp [AV.ids])
     split at h
     ·rename_i u es hes
      rw [hes] at ho
      obtain ⟨r,ents,clock,h1,h2,h3,h4,h5⟩:=ho
      cases hx with
      | mp _ _ hv _=>
      rw [h1] at hv; cases hv
      rw [Ca hvk2] at hi
      obtain ⟨rfl,hko⟩:=Fo hi
      have hfk:=kd (w:=w) hvk hko u es ents.toList h4 h5.1
      have hrun:∀ (i:TypeInfo) (zv:Value),P.info? et=some i→i.zero=some zv→zv=pE u 0→
        (Instr.lookup t (.map (some r)) (eV v) two).run P w=.ok (if two then .tuple #[pE u (eY es v),.bool (fN es v)] else pE u (eY es v)) w:=by
       intro i zv hinfo hz1 hz2
       subst hz2
       cases hfi:eH es v 0 with
       | none=>
        rw [hfi] at hfk
        obtain ⟨e1,e2,_⟩:=jC hfi
        cases two <;> simp [Instr.lookup,aW ht,kl h3,dF hvk,hfk,Result.andThen,zeroValue,typeInfo,hinfo,hz1,e1,e2]
       | some q=>
        obtain ⟨j,m⟩:=q
        rw [hfi] at hfk
        obtain ⟨_,e1,e2,_,_⟩:=jD hfi
        cases two <;> simp [Instr.lookup,aW ht,kl h3,dF hvk,hfk,Result.andThen,e1,e2]
      have hio:ch .i64 (eY es v):=by
       cases hfi:eH es v 0 with
       | none=>rw [(jC hfi).2.1]; unfold ch; decide
       | some q=>
        obtain ⟨j,m⟩:=q
        obtain ⟨_,_,e2,⟨p,hp,_,hpn⟩,_⟩:=jD hfi
        rw [e2,← hpn]
        exact (h5.1 p (iE hp)).1
      split at h
      ·rename_i z hz
       split at h
       ·rename_i hc
        obtain ⟨rfl,rfl⟩:=hc
        obtain ⟨i,zv,hinfo,hz1,hz2⟩:=kS hz
        have:=Cq hz2.symm
        subst this
        simp [ret] at h
        subst h
        refine ⟨_,_,rfl,hrun i _ hinfo hz1 rfl,?_⟩
        cases two
        ·exact .int _ _ hio
        ·exact nO (.int _ _ hio) (.bool _)
       ·simp at h
      ·rename_i cs hz
       split at h
       ·rename_i hc
        obtain ⟨rfl,hcs⟩:=hc
        obtain ⟨i,zv,hinfo,hz1,hz2⟩:=kS hz
        have:=Ij hz2.symm hcs
        subst this
        simp [ret] at h
        subst h
        have hag:Rv w U ρ (.agg []) (.agg #[]):=.agg [] [] rfl (by simp) (by simp)
        refine ⟨_,_,rfl,hrun i _ hinfo hz1 rfl,?_⟩
        cases two
        ·exact hag
        ·exact nO hag (.bool _)
       ·simp at h
      ·simp at h
     ·simp at h
    ·simp at h
   ·simp at h
  ·simp at h
 ·simp at h

theorem rQ:∀ {es:List ((Int×Int×zo)×Int)} {k:Int×Int×zo} {i:Nat},(eH es k i=none→jE es k=es.length)∧∀ j n,eH es k i=some (j,n)→j=i+jE es k
 | [],k,i=>⟨fun _=>rfl,fun j n h=>by cases h⟩
 | p::r,k,i=>by
  obtain ⟨h1,h2⟩:=rQ (es:=r) (k:=k) (i:=i+1)
  unfold eH jE
  cases hq:k==p.1
  ·refine ⟨fun h=>?_,fun j n h=>?_⟩
   ·simp only [bQ] at h ⊢
    rw [h1 h]; simp
   ·simp only [bQ] at h ⊢
    rw [h2 j n h]; omega
  ·refine ⟨fun h=>by simp at h,fun j n h=>?_⟩
   simp only [bR,ao,bC] at h
   rw [← h.1]; rfl

theorem Ia:∀ (es:List ((Int×Int×zo)×Int)) (k:Int×Int×zo),jE es k≤es.length
 | [],_=>bd _
 | p::r,k=>by
  have:=Ia r k
  unfold jE
  cases k==p.1
  ·simp; omega
  ·simp

theorem E7 {n:Nat} {hp:Nat→AO} {t:TypeId} {am ak:AV} {vm vk:Value} {f:ew} {fp:List Nat} (h:(pJ P hp t am ak).val=some f)
  (hm:Rv w U ρ am vm) (hk:Rv w U ρ ak vk) (hub:∀ b,U b→b < w.heap.size) (hfp:tR w U ρ hp fp) (hin:∀ id∈am.ids,id∈fp):
  ∃ v w',(Instr.mapEntry t vm vk).run P w=.ok v w'∧Ef n hp f w U ρ v w' U ρ∧∀ id o,(id,o)∈f.wr→id∈fp:=by
 unfold pJ at h
 split at h
 ·rename_i kt et ht
  split at h
  ·rename_i hvk
   split at h
   ·rename_i id v hvk2
    have hid:=hin id (by simp [AV.ids])
    have ho:=hfp.ob id hid
    split at h
    ·rename_i es hes
     split at h
     ·rename_i z hz
      split at h
      ·rename_i hz0
       subst hz0
       simp only [Tr.val] at h
       split at h
       ·rename_i hlen
        have hlen:es.length≤1073741824:=fb hlen
        simp only [ao] at h
        subst h
        rw [hes] at ho
        obtain ⟨r,ents,clock,h1,h2,h3,h4,h5⟩:=ho
        cases hm with
        | mp _ _ hv _=>
        rw [h1] at hv; cases hv
        rw [Ca hvk2] at hk
        obtain ⟨rfl,hko⟩:=Fo hk
        obtain ⟨i0,zv,hinfo,hz1,hz2⟩:=kS hz
        have:=Cq hz2.symm
        subst this
        have hfk:=kd (w:=w) hvk hko false es ents.toList h4 h5.1
        have hown:(hp id).owns=true:=by rw [hes]; rfl
        have hesz:ents.size=es.length:=by have:=congrArg List.length h4; simpa using this
        have hwrs:∀ id' o',(id',o')∈[(id,AO.vmap false (iw es v))]→id'∈fp:=by
         intro id' o' h'
         simp only [bO,bC] at h'
         rw [h'.1]; exact hid
        have hix:ch .i64 (jE es v:Int):=by
         have:=Ia es v
         unfold ch
         exact ⟨by show (-9223372036854775808:Int)≤_; omega,by show _≤(9223372036854775807:Int); omega⟩
        cases hfi:eH es v 0 with
        | none=>
         rw [hfi] at hfk
         obtain ⟨e1,e2,_⟩:=jC hfi
         have e3:=(rQ (es:=es) (k:=v) (i:=0)).1 hfi
         have hvent:iw es v=es++[(v,0)]:=by simp [iw,e1]
         refine ⟨.tuple #[.int .i64 0,goInt clock],{ w with heap:=w.heap.setIfInBounds r (.map (ents.push { key:=eV v,val:=.int .i64 0,born:=clock }) (clock+1)) },?_,?_,hwrs⟩
         ·simp [Instr.mapEntry,aW ht,kl h3,dF hvk,hfk,x4 _ h3,Result.andThen,zeroValue,typeInfo,hinfo,hz1]
         ·refine Ef.setMap h1 h2 h3 hown ?_ hub ?_
          ·refine ⟨r,_,_,h1,h2,(uf h3).1,?_,?_,h5.2.push _ _⟩
           ·rw [hvent]
            simp only [Array.toList_push,List.map_append,h4,jO,ui]
            rfl
           ·rw [hvent]
            intro p hp
            rcases bn.1 hp with hp | hp
            ·exact h5.1 p hp
            ·simp at hp; subst hp; exact ⟨(show ch .i64 0 by unfold ch; decide),hko⟩
          ·rw [e2]
           have hc:goInt clock=.int .i64 (jE es v:Int):=by rw [e3,h5.2.1,hesz]; rfl
           rw [hc]
           exact nO (.int _ _ (by unfold ch; decide)) (.int _ _ hix)
        | some q=>
         obtain ⟨j,m⟩:=q
         rw [hfi] at hfk
         obtain ⟨_,e1,e2,⟨p,hpj,hpk,hpn⟩,_⟩:=jD hfi
         have e3:=(rQ (es:=es) (k:=v) (i:=0)).2 j m hfi
         rw [ez] at e3
         rw [Nat.sub_zero] at hpj
         have hvent:iw es v=es:=by simp [iw,e1]
         have hent:∃ e,ents.toList[j]?=some e∧e.key=eV v:=by
          have:(ents.toList.map fun e=>(e.key,e.val))[j]?=some (eV p.1,pE false p.2):=by
           rw [h4]; simp [hpj]
          rw [de,dI] at this
          obtain ⟨e,he1,he2⟩:=this
          simp only [bC] at he2
          exact ⟨e,he1,by rw [he2.1,hpk]⟩
         obtain ⟨e,he1,he2⟩:=hent
         have he3:ents[j]?=some e:=by rw [← rU]; exact he1
         have hst:(Instr.keyThatStays (eV v) (eV v)).run P w=.ok (eV v) w:=by
          simp [Instr.keyThatStays,oC]
         refine ⟨.tuple #[.int .i64 m,goInt e.born],{ w with heap:=w.heap.setIfInBounds r (.map (ents.modify j fun e=>{ e with key:=eV v }) clock) },?_,?_,hwrs⟩
         ·simp [Instr.mapEntry,aW ht,kl h3,dF hvk,hfk,he3,he2,hst,x4 _ h3,Result.andThen,pE]
         ·refine Ef.setMap h1 h2 h3 hown ?_ hub ?_
          ·refine ⟨r,_,_,h1,h2,(uf h3).1,?_,by rw [hvent]; exact h5.1,h5.2.modify _ _ (fun _=>rfl)⟩
           rw [hvent]
           apply x8
           intro q
           have h4q:(ents.toList.map fun e=>(e.key,e.val))[q]?=(AZ false es)[q]?:=by rw [h4]
           simp only [de,rU,x5,AZ] at h4q ⊢
           by_cases hq:j=q
           ·subst hq
            rw [he3] at h4q
            simp only [ug,he2] at h4q
            simp only [if_true,he3,ug]
            exact h4q
           ·simp only [hq,if_false]
            rw [h4q]
          ·rw [e2]
           have hc:goInt e.born=.int .i64 (jE es v:Int):=by rw [h5.2.2 j e he3,e3]; rfl
           rw [hc]
           have hm:ch .i64 m:=by rw [← hpn]; exact (h5.1 p (iE hpj)).1
           exact nO (.int _ _ hm) (.int _ _ hix)
       ·cases h
      ·simp at h
     ·simp at h
    ·simp at h
   ·simp at h
  ·simp at h
 ·simp at h

theorem ph:∀ (es:List ((Int×Int×zo)×Int)) (n:Nat) (x:Int) (p:(Int×Int×zo)×Int),es[n]?=some p→iD es n x=es.set n (p.1,x)
 | [],_,_,_,h=>by simp at h
 | q::r,0,x,p,h=>by simp at h; subst h; rfl
 | q::r,n+1,x,p,h=>by
  rw [iD,ph r n x p (by simpa using h)]
  rfl

theorem sU {n:Nat} {hp:Nat→AO} {t:TypeId} {am as_ ax:AV} {vm vs vx:Value} {f:ew} {fp:List Nat} (h:(ls hp am as_ ax).val=some f)
  (hm:Rv w U ρ am vm) (hs:Rv w U ρ as_ vs) (hx:Rv w U ρ ax vx) (hub:∀ b,U b→b < w.heap.size) (hfp:tR w U ρ hp fp) (hin:∀ id∈am.ids,id∈fp):
  ∃ w',(Instr.entryStore t vm vs vx).run P w=.ok () w'∧Ef n hp f w U ρ undef w' U ρ∧∀ id o,(id,o)∈f.wr→id∈fp:=by
 unfold ls at h
 split at h
 ·rename_i id nn yy
  have hid:=hin id (by simp [AV.ids])
  have ho:=hfp.ob id hid
  split at h
  ·rename_i es hes
   simp only [Tr.val] at h
   split at h
   ·rename_i hinb
    obtain ⟨hb0,hb1⟩:=gU.1 hinb
    simp only [ao] at h
    subst h
    rw [hes] at ho
    obtain ⟨r,ents,clock,h1,h2,h3,h4,h5⟩:=ho
    cases hm with
    | mp _ _ hv _=>
    rw [h1] at hv; cases hv
    cases hs
    cases hx with
    | int _ _ hy=>
    have hown:(hp id).owns=true:=by rw [hes]; rfl
    have hesz:ents.size=es.length:=by have:=congrArg List.length h4; simpa using this
    have hlt:nn.toNat < ents.size:=by omega
    have hfi:ents.findIdx? (fun e=>(e.born:Int)==nn)=some nn.toNat:=by
     rw [Array.findIdx?_eq_some_iff_getElem]
     refine ⟨hlt,?_,fun j hj=>?_⟩
     ·have:=h5.2.2 nn.toNat ents[nn.toNat] (gZ hlt)
      rw [this]
      simp
      omega
     ·have:=h5.2.2 j (ents[j]'(by omega)) (gZ (by omega))
      rw [this]
      simp
      omega
    obtain ⟨p,hp⟩:∃ p,es[nn.toNat]?=some p:=⟨es[nn.toNat]'(by omega),zJ (by omega)⟩
    refine ⟨{ w with heap:=w.heap.setIfInBounds r (.map (ents.modify nn.toNat fun e=>{ e with val:=.int .i64 yy }) clock) },?_,?_,?_⟩
    ·simp [Instr.entryStore,kl h3,asInt,asIntOf,hfi,x4 _ h3,Result.andThen]
    ·refine Ef.setMap h1 h2 h3 hown ?_ hub (.tup [] [] rfl (by simp))
     refine ⟨r,_,_,h1,h2,(uf h3).1,?_,?_,h5.2.modify _ _ (fun _=>rfl)⟩
     ·rw [ph es _ yy p hp]
      apply x8
      intro q
      have h4q:(ents.toList.map fun e=>(e.key,e.val))[q]?=(AZ false es)[q]?:=by rw [h4]
      simp only [de,rU,x5,jJ,AZ] at h4q ⊢
      by_cases hq:nn.toNat=q
      ·subst hq
       have hjl:nn.toNat < es.length:=by omega
       rw [gZ hlt,hp] at h4q
       simp only [ug,ao,bC] at h4q
       simp [gZ hlt,hjl,h4q.1,pE]
      ·simp only [hq,if_false]
       rw [h4q]
     ·rw [ph es _ yy p hp]
      intro p' hp'
      rcases mr hp' with hp' | rfl
      ·exact h5.1 p' hp'
      ·exact ⟨hy,(h5.1 p (iE hp)).2⟩
    ·intro id' o' h'
     simp only [bO,bC] at h'
     rw [h'.1]; exact hid
   ·cases h
  ·simp at h
 ·simp at h

theorem Ef.frz {n:Nat} {hp:Nat→AO} {ids:List Nat} {r:AV} {v:Value} (hub:∀ b,U b→b < w.heap.size) (hvf:∀ j∈ids,kG (hp j)=true)
  (hob:∀ j∈ids,be w U ρ j (hp j)) (hval:Rv w (fun b=>U b∧¬ ∃ j∈ids,zO ρ j (hp j) b) ρ r v):
  Ef n hp { val:=r,wr:=ed hp ids } w U ρ v w (fun b=>U b∧¬ ∃ j∈ids,zO ρ j (hp j) b) ρ:=by
 generalize hU':(fun b=>U b∧¬ ∃ j∈ids,zO ρ j (hp j) b)=U' at hval ⊢
 have hsub:∀ b,U' b→U b:=fun b h=>by rw [← hU'] at h; exact h.1
 have hfz:∀ j∈ids,∀ b,zO ρ j (hp j) b→¬ U' b:=fun j hj b ho h=>by rw [← hU'] at h; exact h.2 ⟨j,hj,ho⟩
 have noOwn:∀ id o b,(id,o)∈ed hp ids→zO ρ id o b→False:=by
  intro id o b h ho
  obtain ⟨hin',rfl⟩:=cD h
  rw [zO,mG (hvf id hin')] at ho
  simp at ho
 refine ⟨gu.refl w,hval,?_,by simp,fun _ _=>rfl,fun _ _ h=>h,fun _ _ _=>rfl,fun b' h=>hub b' (hsub b' h),fun b' _ h=>hsub b' h,?_,?_,?_⟩
 ·intro id o h
  obtain ⟨hin',rfl⟩:=cD h
  exact nv (hob id hin') (hvf id hin') hsub (hfz id hin')
 ·intro b' _ h hn
  rw [← hU']
  exact ⟨h,fun ⟨j,hj,ho⟩=>hn j _ (nz hj) ho⟩
 ·rintro id o b' (h | ⟨_,h⟩) ho
  ·exact (noOwn id o b' h ho).elim
  ·simp at h
 ·rintro id1 o1 id2 o2 b' (h | ⟨_,h⟩) _ ho _
  ·exact (noOwn id1 o1 b' h ho).elim
  ·simp at h

theorem Gl (w:World) (U:Nat→Prop) (ρ:Nat→Option Value) {e:Sh} {elem:TypeId} {x:Sem e} (h:Cc P e elem=some x):∃ zv:Value,(∀ w':World,(zeroValue elem).run P w'=.ok zv w')∧zv.cells.size=e.size∧(∀ v∈zv.cells.toList,v.oneCell'=true)∧
  ∀ (w':World) (U':Nat→Prop) (ρ':Nat→Option Value) (j:Nat) (cc:AV),(zn e x)[j]?=some cc→∃ v,zv.cells[j]?=some v∧Rv w' U' ρ' cc v:=by
 unfold Cc at h
 split at h
 ·rename_i z hz
  obtain ⟨i,zv,hinfo,hz1,rfl⟩:=kS hz
  split at h
  ·rename_i cs hcs
   split at h
   ·rename_i y himp
    cases h
    have hc:=fun (w':World) (U':Nat→Prop) (ρ':Nat→Option Value)=>eA hcs (k9 (w:=w') (U:=U') (ρ:=ρ') zv)
    have him:=fun (w':World) (U':Nat→Prop) (ρ':Nat→Option Value)=>gK (w:=w') (U:=U') (U':=U') (ρ:=ρ') (hp:=fun _=>.dead) (fun _ h=>h) e cs x [] (fun j=>(zv.cells.toList[j]?).getD undef) himp
     (fun j c hj=>by
      have hcv:=(hc w' U' ρ').1
      have hlt:j < zv.cells.toList.length:=by rw [← hcv.len]; exact (bM.1 hj).1
      exact hcv.rv j c _ hj (by simp [zJ hlt]))
     (fun id _=>⟨trivial,fun b hb=>by simp [zO,AO.owns] at hb⟩)
    have hsz:zv.cells.size=e.size:=by
     have h1:=(hc w U ρ).1.len
     have h2:=(him w U ρ).1
     simp at h1 h2
     omega
    refine ⟨zv,fun w'=>by simp [zeroValue,typeInfo,hinfo,hz1],hsz,(hc w U ρ).2,fun w' U' ρ' j cc hcc=>?_⟩
    have hlt:j < zv.cells.size:=by rw [hsz]; have:=(bM.1 hcc).1; rwa [zN] at this
    refine ⟨zv.cells[j],gZ hlt,?_⟩
    have:=(him w' U' ρ').2.2 j cc hcc
    simpa [gZ hlt] using this
   ·cases h
  ·cases h
 ·cases h

theorem Ef.clearVec {n id i:Nat} {hp:Nat→AO} {e:Sh} {l:List (Sem e)} {x:Sem e} {b c:Nat} {arr:Array Value} {T:TypeId} {vv:List Value} (hub:∀ b,U b→b < w.heap.size) (hid:hp id=.vec e l)
  (hρ:ρ id=some (.slice (some ⟨b,0,none⟩) l.length c)) (hc:0 < c) (hU:U b) (hb:w.heap[b]?=some (.cells arr T (0,0))) (hm:l.length≤zC) (hsz:arr.size=c * e.size) (hle:l.length≤c)
  (hr:∀ i (hi:i < l.length) (j:Nat) (c:AV),(zn e l[i])[j]?=some c→∃ v,arr[i * e.size+j]?=some v∧Rv w U ρ c v)
  (hi:i≤l.length) (hvl:vv.length=(l.length - i) * e.size)
  (hvv:∀ k j:Nat,k < l.length - i→∀ cc,(zn e x)[j]?=some cc→∃ v,vv[k * e.size+j]?=some v∧∀ w':World,Rv w' U ρ cc v):
  Ef n hp { val:=.tup [],wr:=[(id,.vec e (l.take i++List.replicate (l.length - i) x))] } w U ρ (.tuple #[]) (w.setCells b (i * e.size) vv) U ρ:=by
 have hown:zO ρ id (hp id) b:=⟨by rw [hid]; rfl,_,hρ,by simp [c9]; omega⟩
 have hk:∀ b',b' < w.heap.size→¬ U b'→(w.setCells b (i * e.size) vv).heap[b']?=w.heap[b']?:=fun b' _ hb'=>zV _ _ _ _ _ (fun e=>hb' (e▸hU))
 have hs:w.heap.size≤(w.setCells b (i * e.size) vv).heap.size:=by rw [aR]; exact bd _
 have hmono:∀ {cc:AV} {v:Value},Rv w U ρ cc v→Rv (w.setCells b (i * e.size) vv) U ρ cc v:=fun h=>h.mono hs hk (fun _ _ h=>h) (fun _ _ h=>h)
 have hblk:=bN vv w b (i * e.size) hb
 have hlen:(l.take i++List.replicate (l.length - i) x).length=l.length:=by simp; omega
 refine ⟨gu.setCells vv w b _,.tup [] [] rfl (by simp),?_,by simp,fun _ _=>rfl,fun _ _ h=>h,?_,?_,fun b' _ h=>h,fun b' _ h _=>h,?_,?_⟩
 ·intro id' o' h
  simp only [bO,bC] at h
  obtain ⟨rfl,rfl⟩:=h
  refine ⟨_,c,by rw [hlen]; exact hρ,by rw [hlen]; exact hm,.inr ⟨b,T,(f8 arr.toList (i * e.size) vv).toArray,rfl,hc,hU,hblk,by simp [cd,hsz],by rw [hlen]; exact hle,?_⟩⟩
  intro i' hi' j cc hcc
  have hi2:i' < l.length:=by rw [hlen] at hi'; exact hi'
  have hlt:j < e.size:=by have:=(bM.1 hcc).1; rwa [zN] at this
  have hmul:(i'+1) * e.size≤c * e.size:=cN _ (by omega)
  rw [ee] at hmul
  simp only [jG]
  by_cases hii:i' < i
  ·have he:(l.take i++List.replicate (l.length - i) x)[i']=l[i']:=by
    rw [List.getElem_append_left (by simp; omega)]
    simp
   rw [he] at hcc
   obtain ⟨v,h1,h2⟩:=hr i' hi2 j cc hcc
   refine ⟨v,?_,hmono h2⟩
   have hmul2:(i'+1) * e.size≤i * e.size:=cN _ (by omega)
   rw [ee] at hmul2
   rw [bW,if_neg (by omega)]
   simpa using h1
  ·have he:(l.take i++List.replicate (l.length - i) x)[i']=x:=by
    rw [List.getElem_append_right (by simp; omega)]
    simp
   rw [he] at hcc
   obtain ⟨v,h1,h2⟩:=hvv (i' - i) j (by omega) cc hcc
   refine ⟨v,?_,h2 _⟩
   have e1:i' * e.size=i * e.size+(i' - i) * e.size:=by rw [← lS]; congr 1; omega
   have hb1:(i' - i) * e.size+j < vv.length:=(bM.1 h1).1
   rw [bW,if_pos ⟨by omega,by omega,by simp; omega⟩,show i' * e.size+j - i * e.size=(i' - i) * e.size+j by omega]
   exact h1
 ·intro b' _ hn
  exact zV _ _ _ _ _ (fun e'=>hn id _ (bO.2 rfl) (e'▸hown))
 ·intro b' h; rw [aR]; exact hub b' h
 ·rintro id' o' b' (h | ⟨_,h⟩) ho
  ·simp only [bO,bC] at h
   obtain ⟨rfl,rfl⟩:=h
   refine .inr ⟨id',_,bO.2 rfl,?_⟩
   obtain ⟨_,v,hv',hb'⟩:=ho
   exact ⟨by rw [hid]; rfl,v,hv',hb'⟩
  ·simp at h
 ·rintro id1 o1 id2 o2 b' (h | ⟨_,h⟩) (h' | ⟨_,h'⟩) _ _
  ·simp only [bO,bC] at h h'
   rw [h.1,h'.1]
  ·simp at h'
  ·simp at h
  ·simp at h

theorem Ef.wrSame {n id:Nat} {hp:Nat→AO} {o:AO} {v:Value} (hub:∀ b,U b→b < w.heap.size) (hid:hp id=o) (hob:be w U ρ id o) (hv:Rv w U ρ (.tup []) v):Ef n hp { val:=.tup [],wr:=[(id,o)] } w U ρ v w U ρ:=by
 refine ⟨gu.refl w,hv,?_,by simp,fun _ _=>rfl,fun _ _ h=>h,fun _ _ _=>rfl,hub,fun b' _ h=>h,fun b' _ h _=>h,?_,?_⟩
 ·intro id' o' h
  simp only [bO,bC] at h
  obtain ⟨rfl,rfl⟩:=h
  exact hob
 ·rintro id' o' b' (h | ⟨_,h⟩) ho
  ·simp only [bO,bC] at h
   obtain ⟨rfl,rfl⟩:=h
   exact .inr ⟨id',_,bO.2 rfl,by rw [hid]; exact ho⟩
  ·simp at h
 ·rintro id1 o1 id2 o2 b' (h | ⟨_,h⟩) (h' | ⟨_,h'⟩) _ _
  ·simp only [bO,bC] at h h'
   rw [h.1,h'.1]
  ·simp at h'
  ·simp at h
  ·simp at h

theorem xQ (z:Array Value) (m k j:Nat) (hk:k < m) (hj:j < z.size):(Builtin.zeroCells z m).toList[k * z.size+j]?=some z[j]:=by
 have hlt:k * z.size+j < m * z.size:=by
  have:(k+1) * z.size≤m * z.size:=cN _ (by omega)
  rw [ee] at this
  omega
 unfold Builtin.zeroCells
 rw [rU,Array.getElem?_map,Array.getElem?_range]
 rw [if_pos hlt]
 simp only [ug]
 have:(k * z.size+j) % z.size=j:=by
  rw [Nat.mul_comm,Nat.mul_add_mod,Nat.mod_eq_of_lt hj]
 rw [this,getElem!_pos z j hj]

theorem E6 {n:Nat} {hp:Nat→AO} {t ty:TypeId} {ax:AV} {vx:Value} {f:ew} {fp:List Nat} (h:(A9 P hp t ax).val=some f) (hx:Rv w U ρ ax vx) (hub:∀ b,U b→b < w.heap.size) (hfp:tR w U ρ hp fp) (hin:∀ id∈ax.ids,id∈fp):
  ∃ v w',(Builtin.clear_ #[t] ty #[vx]).run P w=.ok v w'∧Ef n hp f w U ρ v w' U ρ∧∀ id o,(id,o)∈f.wr→id∈fp:=by
 unfold A9 at h
 split at h
 ·rename_i id sz i
  have hidfp:=hin id (by simp [AV.ids])
  have ho:=hfp.ob id hidfp
  split at h
  ·rename_i e l elem hid hu
   split at h
   ·rename_i hsz0
    subst hsz0
    split at h
    ·rename_i x hz
     simp only [Tr.val] at h
     split at h
     ·rename_i hil
      simp only [ao] at h
      subst h
      simp only [ae] at hil
      obtain ⟨zv,z1,z2,z3,z4⟩:=Gl w U ρ hz
      cases hx with
      | vsuf _ _ _ n' c a hρ hi hn=>
      have hob:=ho
      rw [hid] at ho
      obtain ⟨a',c',h1,hm,h3⟩:=ho
      rw [hρ] at h1
      simp only [ao,Value.slice.injEq] at h1
      obtain ⟨rfl,rfl,rfl⟩:=h1
      have hwr:∀ id' o,(id',o)∈[(id,AO.vec e (l.take i++List.replicate (l.length - i) x))]→id'∈fp:=by
       intro id' o h'
       simp only [bO,bC] at h'
       rw [h'.1]; exact hidfp
      by_cases hlt:i < l.length
      ·rcases h3 with ⟨rfl,_⟩ | ⟨b,T,arr,rfl,hc,hU,hb,hasz,hle,hr⟩
       ·simp at hlt
       ·have hne:¬ c=i:=by omega
        have hzs:(Builtin.zeroCells zv.cells (l.length - i)).toList.length=(l.length - i) * e.size:=by simp [gn,z2]
        have hcl:∀ j,j < (l.length - i) * e.size→i * e.size+j < arr.size:=by
         intro j hj
         have h1:i * e.size+(l.length - i) * e.size=l.length * e.size:=by rw [← lS]; congr 1; omega
         have h2:l.length * e.size≤c * e.size:=cN _ hle
         omega
        refine ⟨.tuple #[],w.setCells b (i * e.size) (Builtin.zeroCells zv.cells (l.length - i)).toList,?_,?_,hwr⟩
        ·have hst:=run_storeCells_cells (P:=P) b (i * e.size) (Builtin.zeroCells zv.cells (l.length - i)).toList 0 w
          (fun j hj=>by
           rw [hzs] at hj
           have:=hcl j hj
           simp [World.cell?,hb,gZ this])
          (fun j hj=>by simp [World.frozen?,hb])
          (fun v hv=>by
           simp only [Builtin.zeroCells,Array.toList_map,fe] at hv
           obtain ⟨q,hq,rfl⟩:=hv
           have hpos:0 < zv.cells.size:=by
            rcases Nat.eq_zero_or_pos zv.cells.size with h0 | h0
            ·rw [h0] at hq; simp at hq
            ·exact h0
           have hlt2:q % zv.cells.size < zv.cells.size:=Nat.mod_lt _ hpos
           rw [getElem!_pos zv.cells _ hlt2]
           exact z3 _ (by simp))
         simp only [oh] at hst
         obtain ⟨m,hm'⟩:∃ m,l.length - i=m+1:=⟨l.length - i - 1,by omega⟩
         rw [hm'] at hst ⊢
         rw [if_neg hne]
         simp [Builtin.clear_,aW hu,z1,hst,Addr.add_none]
        ·refine Ef.clearVec hub hid hρ hc hU hb hm hasz hle hr hil hzs (fun k j hk cc hcc=>?_)
         obtain ⟨v,v1,_⟩:=z4 w U ρ j cc hcc
         have hjl:j < zv.cells.size:=(ua.1 v1).1
         rw [← z2]
         refine ⟨zv.cells[j],xQ _ _ _ _ hk hjl,fun w'=>?_⟩
         obtain ⟨v',v1',v2'⟩:=z4 w' U ρ j cc hcc
         rw [gZ hjl] at v1'
         cases v1'
         exact v2'
      ·have h0:l.length - i=0:=by omega
       have hl:l.take i++List.replicate (l.length - i) x=l:=by rw [h0,List.replicate_zero,jL]; exact List.take_of_length_le (by omega)
       refine ⟨.tuple #[],w,?_,?_,hwr⟩
       ·rw [h0]
        split <;> cases a <;> simp [Builtin.clear_,aW hu]
       ·rw [hl]
        exact Ef.wrSame hub hid (by rw [← hid]; exact hob) (.tup [] [] rfl (by simp))
     ·cases h
    ·cases h
   ·cases h
  ·cases h
 ·cases h

theorem Dd {n:Nat} {hp:Nat→AO} {t:TypeId} {ax:AV} {vx:Value} {lo hi mx:Option AV} {vlo vhi vmx:Option Value} {f:ew} {fp:List Nat} (h:(vH P hp t ax lo hi mx).val=some f)
  (hx:Rv w U ρ ax vx) (rlo:∀ a v,lo=some a→vlo=some v→Rv w U ρ a v) (rhi:∀ a v,hi=some a→vhi=some v→Rv w U ρ a v)
  (rmx:∀ a v,mx=some a→vmx=some v→Rv w U ρ a v) (slo:lo.isSome=vlo.isSome) (shi:hi.isSome=vhi.isSome) (smx:mx.isSome=vmx.isSome)
  (hub:∀ b,U b→b < w.heap.size) (hfp:tR w U ρ hp fp) (hin:∀ id∈ax.ids,id∈fp):
  ∃ v U',(Instr.sliceAt t vx vlo vhi vmx).run P w=.ok v w∧Ef n hp f w U ρ v w U' ρ∧∀ id o,(id,o)∈f.wr→id∈fp:=by
 unfold vH at h
 split at h
 ·rename_i id
  have hid:=hin id (by simp [AV.ids])
  have ho:=hfp.ob id hid
  split at h
  ·rename_i e l hes
   split at h
   ·rename_i al
    split at h
    ·rename_i k elem hk hu
     split at h
     ·rename_i hsz
      simp only [Tr.val] at h
      split at h
      ·rename_i hcond
       simp only [ret,Tr.val,ao] at h
       subst h
       simp only [aL,ae] at hcond
       obtain ⟨hk0,hk1⟩:=hcond
       cases vhi with
       | some v=>simp at shi
       | none=>
       cases vmx with
       | some v=>simp at smx
       | none=>
       rw [hes] at ho
       obtain ⟨a,c,h1,hm,h3⟩:=ho
       have hlc:l.length≤c:=by
        rcases h3 with ⟨rfl,rfl⟩ | ⟨_,_,_,_,_,_,_,_,h3,_⟩
        ·simp
        ·exact h3
       cases hx with
       | vec _ _ hv _=>
       rw [hv] at h1; cases h1
       have hb:=qM (P:=P) (w:=w) (U:=U) (ρ:=ρ) (isS:=true) (len:=l.length) (cap:=c) (lo:=some al) (hi:=none) (vlo:=vlo) (vhi:=none) (l:=k) (h:=(l.length:Int)) hk rfl rlo (fun a v ha=>by cases ha) slo rfl hk0 hk1 (Int.le_refl _) hlc
       refine ⟨_,U,?_,Ef.pure hub (.vsuf id e.size k.toNat l.length c a hv (by omega) hlc),by simp⟩
       simp [Instr.sliceAt,Instr.slice,aW hu,hb,bz hsz]
      ·cases h
     ·cases h
    ·cases h
   simp only [Tr.val_bind,eS] at h
   obtain ⟨f0,h0,h1⟩:=h
   simp only [Tr.val_ok,ao] at h1
   subst h1
   have hsub:∀ b,(U b∧¬ ∃ j∈[id],zO ρ j (hp j) b)→U b:=fun b hb=>hb.1
   have hsl:Rv w (fun b=>U b∧¬ ∃ j∈[id],zO ρ j (hp j) b) ρ (.sl e l) vx:=
    s6 (hp:=hp) (e:=e) (c:=.vec id) (by simp [xw,hes]) hx hsub (fun j hj=>by simp [bw] at hj; subst hj; exact ho)
     (fun j hj b hb hU=>by simp [bw] at hj; subst hj; exact hU.2 ⟨_,by simp,hb⟩)
   obtain ⟨r,x,rfl,hrun,hr⟩:=oU (w:=w) (U:=fun b=>U b∧¬ ∃ j∈[id],zO ρ j (hp j) b) (ρ:=ρ) (vlo:=vlo) (vhi:=vhi) (vmx:=vmx) h0 hsl
    (fun a v ha hv=>(rlo a v ha hv).weak hsub) (fun a v ha hv=>(rhi a v ha hv).weak hsub) (fun a v ha hv=>(rmx a v ha hv).weak hsub) slo shi smx
   refine ⟨x,_,hrun,Ef.frz hub (by simp [hes,kG]) (by simp; exact ho) hr,fun id' o' h'=>?_⟩
   obtain ⟨h2,_⟩:=cD h'
   simp at h2
   rw [h2]; exact hid
  ·rename_i e l hes
   rw [hes] at ho
   obtain ⟨v',hv',hrv⟩:=ho
   cases hx with
   | vec _ _ hv _=>
   rw [hv] at hv'; cases hv'
   obtain ⟨r,x,rfl,hrun,hr⟩:=oU (w:=w) (U:=U) (ρ:=ρ) (vlo:=vlo) (vhi:=vhi) (vmx:=vmx) h hrv rlo rhi rmx slo shi smx
   exact ⟨x,U,hrun,Ef.pure hub hr,by simp⟩
  ·simp at h
 ·obtain ⟨r,x,rfl,hrun,hr⟩:=oU (w:=w) (U:=U) (ρ:=ρ) (vlo:=vlo) (vhi:=vhi) (vmx:=vmx) h hx rlo rhi rmx slo shi smx
  exact ⟨x,U,hrun,Ef.pure hub hr,by simp⟩

end
section
variable {w:World} {U:Nat→Prop} {ρ:Nat→Option Value}

def xp (gl:Nat→AV) (w:World) (U:Nat→Prop):Prop:=∀ g,Rv w U (fun _=>none) (gl g) (.pointer (some ⟨g,0,none⟩))

structure mf (P:Program) (gl:Nat→AV) (k:FuncId) (F:zF):Prop where
 fn:∃ fn,P.funcs[k]?=some fn∧(fn.name == "runtime.NumGoroutine")=false∧fn.body.isNone=false
 calls:∀ (w:World) (U:Nat→Prop) (ρ:Nat→Option Value) (hp:Nat→AO) (n:Nat) (args:List AV) (vals:List Value) (f:ew) (fp:List Nat),(F args hp n).val=some f→
  cK w U ρ args vals→(∀ b,U b→b < w.heap.size)→xp gl w U→tR w U ρ hp fp→(∀ id∈AV.idsL args,id∈fp)→(∀ id∈fp,∀ j∈(hp id).ids,j∈fp)→(∀ j,j < f.nw.length→ρ (n+j)=none)→
  Calls P k vals.toArray w (fun e w'=>∃ v U' ρ',e=.returned v∧Ef n hp f w U ρ v w' U' ρ')∧∀ id o,(id,o)∈f.wr→id∈fp

structure zl (E:bt):Prop extends EnvOk E where
 fs:∀ k F,E.F k=some F→mf E.P E.gl k F
 mix:E.P.follows .mixedOrders=true

theorem jW {v:AV} {id:Nat} (h:id∈cJ v):id∈v.ids:=by
 have hl:∀ cs:List AV,id∈cs.flatMap bw→id∈AV.idsL cs:=by
  intro cs
  induction cs with
  | nil=>simp
  | cons c cs ih=>
   intro h
   simp only [List.flatMap_cons,bn] at h
   simp only [AV.idsL,bn]
   rcases h with h | h
   ·left
    cases c <;> simp [bw] at h
    subst h; simp [AV.ids]
   ·exact .inr (ih h)
 unfold cJ at h
 split at h
 ·rename_i cs hcs
  cases v <;> simp only [cellsOf,ao,reduceCtorEq] at hcs <;> (try subst hcs)
  case agg cs=>simp only [AV.ids]; exact hl _ h
  case vec id'=>simp [bw] at h; subst h; simp [AV.ids]
  all_goals simp [bw] at h
 ·simp at h

theorem ff {cs:List AV} {c:AV} {id:Nat} (hc:c∈cs) (h:id∈c.ids):id∈AV.idsL cs:=by
 induction cs with
 | nil=>simp at hc
 | cons x cs ih=>
  simp only [AV.idsL,bn]
  rcases cY.1 hc with rfl | hc
  ·exact .inl h
  ·exact .inr (ih hc)

theorem P5 {cs:List AV} {id:Nat} (h:id∈AV.idsL cs):∃ c∈cs,id∈c.ids:=by
 induction cs with
 | nil=>simp [AV.idsL] at h
 | cons x cs ih=>
  simp only [AV.idsL,bn] at h
  rcases h with h | h
  ·exact ⟨x,by simp,h⟩
  ·obtain ⟨c,hc,hi⟩:=ih h
   exact ⟨c,by simp [hc],hi⟩

theorem dZ {P:Program} {o:Oper} {a:Act} {K:Act→World→Prop} {Q:Exit→Act→World→Prop} {v:Value} {w':World} (h:(execOp a.eval o).run P w=.ok (.value v) w') (hk:K (a.put o.dst v) w'):o.wp P a w K Q:=by
 rw [Oper.wp,h]; exact hk

theorem nf {P:Program} {o:Oper} {a:Act} {K:Act→World→Prop} {Q:Exit→Act→World→Prop} {w':World} (h:(execOp a.eval o).run P w=.ok .skip w') (hk:K (a.put o.dst undef) w'):o.wp P a w K Q:=by
 rw [Oper.wp,h]; exact hk

theorem nN {ev:Operand→AV} {g:Operand→Value}:∀ (xs:List Operand),(∀ x∈xs,Rv w U ρ (ev x) (g x))→cK w U ρ (xs.map ev) (xs.map g)
 | [],_=>⟨rfl,by simp⟩
 | x::xs,h=>by
  have ih:=nN xs (fun y hy=>h y (by simp [hy]))
  refine ⟨by simp,fun j c v hc hv=>?_⟩
  cases j with
  | zero=>simp at hc hv; subst hc; subst hv; exact h x (by simp)
  | succ j=>exact ih.rv j c v (by simpa using hc) (by simpa using hv)

theorem cK.append {a b:List AV} {x y:List Value} (h:cK w U ρ a x) (h':cK w U ρ b y):cK w U ρ (a++b) (x++y):=by
 refine ⟨by simp [h.len,h'.len],fun j c v hc hv=>?_⟩
 by_cases hj:j < a.length
 ·rw [j6 hj] at hc
  rw [j6 (by rw [← h.len]; exact hj)] at hv
  exact h.rv j c v hc hv
 ·rw [lc (by omega)] at hc
  rw [lc (by rw [← h.len]; omega),← h.len] at hv
  exact h'.rv _ c v hc hv

theorem xF {E:bt} (hE:EnvOk E) {n:Nat} {hp:Nat→AO} {t:TypeId} {len:Nat} {ps:List (Nat×AV)} {vps:List (Nat×Value)} {f:ew} {fp:List Nat}
  (h:(oT E hp n t len ps).val=some f) (hi:ps.map (·.1)=vps.map (·.1)) (hr:cK w U ρ (ps.map (·.2)) (vps.map (·.2)))
  (hub:∀ b,U b→b < w.heap.size) (hn:∀ j,j < f.nw.length→ρ (n+j)=none):
  ∃ v w' U' ρ',(Instr.buildSlice t len vps.toArray).run E.P w=.ok v w'∧Ef n hp f w U ρ v w' U' ρ'∧∀ id o,(id,o)∈f.wr→id∈fp:=by
 unfold oT at h
 split at h
 ·rename_i elem hu
  split at h
  ·rename_i e he
   split at h
   ·rename_i hcond
    simp only [aL,ae,List.isEmpty_iff] at hcond
    obtain ⟨⟨⟨⟨hlen,hord⟩,hne⟩,hmax⟩,hemp⟩:=hcond
    split at h
    ·rename_i l hl
     simp at h; subst h
     have hn0:ρ n=none:=hn 0 (by simp)
     obtain ⟨i,z,hinfo,hisz,hpos,_,hz,hzc⟩:=hE.sh elem e he
     have hsz:dL E.P elem=some e.size:=by simp [dL,hinfo,hisz]
     have hids:(ps.map (·.2)).flatMap cJ=[]:=by
      rw [← hemp,List.flatMap_map]
     obtain ⟨h1,h2,h3⟩:=qQ (w:=w) (U:=U) (ρ:=ρ) (U':=U) (fun _ h=>h) _ _ l hl hr
      (fun id hid=>by rw [hids] at hid; cases hid)
     have hvps:vps=((vps.map (·.2)).zipIdx 0).map fun p=>(p.2,p.1):=by
      have h1:=mH ps 0 hord
      have hidx:ps.map (·.1)=List.range' 0 ps.length:=by
       have:=congrArg (List.map (·.1)) h1
       rw [rY] at this
       rw [this]
       have e2:((fun x:Nat×AV=>x.1) ∘ fun p:AV×Nat=>(p.2,p.1))=Prod.snd:=rfl
       rw [e2,List.zipIdx_map_snd]
       simp
      have hl2:ps.length=vps.length:=by have:=congrArg List.length hi; simpa using this
      rw [hi,hl2] at hidx
      apply List.ext_getElem
      ·simp
      ·intro k hk hk'
       have:(vps.map (·.1))[k]?=(List.range' 0 vps.length)[k]?:=by rw [hidx]
       rw [de,zJ hk,List.getElem?_range' hk] at this
       simp at this
       simp
       exact Prod.ext this rfl
     have hlen2:vps.length=len:=by rw [← hlen]; have:=congrArg List.length hi; simpa using this.symm
     obtain ⟨r,e1,e2,e3,e4⟩:=ro e.size (vps.map (·.2)) 0 (((Array.range (len * e.size)).map (z.cells[· % z.cells.size]!)).toList)
      (fun v hv=>(h2 v hv).1) (by simp [hlen2])
     rw [← hvps] at e1
     have hne0:len * e.size≠0:=Nat.mul_ne_zero (by omega) (by omega)
     have hbig:¬ (2 ^ 24 < len * e.size):=by omega
     have hll:l.length=len:=by rw [h1]; simpa using hlen2
     have hs:w.heap.size≤(w.alloc (.cells r.toArray elem)).heap.size:=by rw [aH]; omega
     refine ⟨.slice (some ⟨w.heap.size,0,none⟩) len len,w.alloc (.cells r.toArray elem),fun b=>U b∨b=w.heap.size,_,?_,Ef.newVec (by simp) hn0 rfl (gu.alloc w _ _) (fun b hb _=>aY w _ b hb) ?_ ?_ ?_ ?_,by simp⟩
     ·simp only [Gv] at e1
      simp only [Instr.buildSlice,cZ,aW hu,bz hsz,jj]
      simp only [gt_iff_lt,hbig,if_false,hne0,ol,jj,cZ,zeroValue,typeInfo,run_program,hinfo,hz,e1,newRow,run_newObj]
      rfl
     ·intro b hb
      rw [aH]
      rcases hb with hb | hb
      ·have:=hub b hb; exact Nat.lt_succ_of_lt this
      ·rw [hb]; exact Nat.lt_succ_self _
     ·intro b hb
      exact ⟨fun h=>h.elim (fun x=>x) (fun e=>by omega),.inl⟩
     ·refine ⟨some ⟨w.heap.size,0,none⟩,len,by simp [j4,hll],by unfold zC; have:len≤len * e.size:=Nat.le_mul_of_pos_right _ hpos; omega,.inr ⟨w.heap.size,elem,r.toArray,rfl,hne,.inr rfl,dp w _,by simp [e2],by omega,?_⟩⟩
      intro i' hi' j c hc
      have hi'':i' < (vps.map (·.2)).length:=by rw [← h1]; exact hi'
      obtain ⟨v,hv1,hv2⟩:=h3 i' hi' hi'' j c hc
      have hj:j < e.size:=by have:=(bM.1 hc).1; rwa [zN] at this
      have:=e4 i' hi'' j hj
      rw [ez] at this
      refine ⟨v,by simp only [jG]; rw [this,hv1],hv2.mono hs (fun b hb _=>aY w _ b hb) (fun b hb h=>h.elim (fun x=>x) (fun e=>by omega)) (du hn0)⟩
     ·intro b hb
      simp [c9] at hb
      exact .inl (by omega)
    ·simp at h
   ·simp at h
  ·simp at h
 ·simp at h

theorem sm:∀ (l:List Int) (s:ByteArray),l.foldl (fun r n=>r.push (UInt8.ofNat n.toNat)) s=⟨s.data++(iy l).toArray⟩:=by
 intro l
 induction l with
 | nil=>intro s; simp [iy]
 | cons n l ih=>intro s; rw [List.foldl_cons,ih]; simp [iy,ByteArray.push]

theorem E5 {P:Program} {src dst el:TypeId} {x:AV} {v:Value} {f:ew} (h:(A8 P el x).val=some f) (hs:P.underlying src=some (.slice el))
  (hd:P.underlying dst=some .string) (hx:Rv w U ρ x v):
  ∃ r x,f={ val:=r }∧(convert src dst v).run P w=.ok x w∧Rv w U ρ r x:=by
 unfold A8 at h
 split at h
 ·rename_i l
  split at h
  ·rename_i hu
   simp at h; subst h
   cases hx with
   | sl0 _ a c=>
    refine ⟨_,.string ⟨(iy []).toArray⟩,rfl,?_,.str _ (by simp [iy])⟩
    rw [run_convert_bytes_string w src dst el a _ _ hs hu hd]
    cases a with
    | none=>simp [Conv.bytesToString,iy]; rfl
    | some a=>
     have:=run_bytesToString (P:=P) w a 0 c [] (by simpa using run_loadCells_list (P:=P) w a [] (fun j v hv=>by simp at hv))
     rw [sm] at this
     simpa [iy] using this
   | sl _ _ b o c vals hc hm hb hU hcell hrr=>
    have hcl:∀ j (hj:j < l.length),w.cell? ⟨b,o+j,none⟩=some (.int .u8 l[j]):=by
     intro j hj
     have h1:=hcell j 0 hj (by simp [Sh.size])
     have h2:=hrr j hj 0 (.int .u8 l[j]) rfl
     generalize vals j 0=vv at h1 h2
     cases h2 with
     | int _ _ hn=>
     simpa [Sh.size] using h1
    have:=run_bytesToString (P:=P) w ⟨b,o,none⟩ l.length c l (by
     have:=run_loadCells_list (P:=P) w ⟨b,o,none⟩ (l.map (Value.int .u8)) (fun j v hv=>by
      rw [Addr.add_none]
      simp only [de,dI] at hv
      obtain ⟨x,hx1,rfl⟩:=hv
      obtain ⟨hj,hx2⟩:=bM.1 hx1
      rw [hcl j hj,hx2])
     simpa using this)
    rw [sm] at this
    refine ⟨_,.string ⟨(iy l).toArray⟩,rfl,?_,.str _ (by simpa [iy] using hm)⟩
    rw [run_convert_bytes_string w src dst el _ _ _ hs hu hd]
    simpa [iy] using this
  ·simp at h
 ·simp at h

theorem yY {E:bt} (hE:zl E) {ev:Operand→AV} {hp:Nat→AO} {n:Nat} {o:Oper} {f:ew} {a:Act} {fp:List Nat} (h:(mB E ev hp n o).val=some f)
  (hev:∀ x∈o.op.operands.toList,Rv w U ρ (ev x) (a.eval x)) (hub:∀ b,U b→b < w.heap.size) (hgl:xp E.gl w U) (hfp:tR w U ρ hp fp)
  (hin:fh o.op=true→∀ x∈o.op.operands.toList,∀ id∈(ev x).ids,id∈fp) (hcl:oM o.op=true→∀ id∈fp,∀ j∈(hp id).ids,j∈fp) (hn:∀ j,j < f.nw.length→ρ (n+j)=none):
  (∀ (K:Act→World→Prop) (Q:Exit→Act→World→Prop),(∀ v w' U' ρ',Ef n hp f w U ρ v w' U' ρ'→K (a.put o.dst v) w')→o.wp E.P a w K Q)∧∀ id o',(id,o')∈f.wr→id∈fp:=by
 have pureCase:∀ (r:AV) (x:Value),f={ val:=r }→(execOp a.eval o).run E.P w=.ok (.value x) w→Rv w U ρ r x→
   (∀ (K:Act→World→Prop) (Q:Exit→Act→World→Prop),(∀ v w' U' ρ',Ef n hp f w U ρ v w' U' ρ'→K (a.put o.dst v) w')→o.wp E.P a w K Q)∧∀ id o',(id,o')∈f.wr→id∈fp:=by
  rintro r x rfl hrun hr
  exact ⟨fun K Q hK=>dZ hrun (hK _ _ _ _ (Ef.pure hub hr)),by simp⟩
 unfold mB at h
 split at h
 case h_1 x ho=>
  simp at h; subst h
  exact pureCase _ (a.eval x) rfl (by simp [execOp,ho]) (hev x (by simp [ho,Op.operands]))
 case h_2 x ho=>
  simp at h; subst h
  exact pureCase _ (a.eval x) rfl (by simp [execOp,ho]) (hev x (by simp [ho,Op.operands]))
 case h_3 c x y ho=>
  have hc:=hev c (by simp [ho,Op.operands])
  have hx:=hev x (by simp [ho,Op.operands])
  have hy:=hev y (by simp [ho,Op.operands])
  generalize hvc:a.eval c=vc at hc
  split at h
  ·rename_i hcc
   rw [hcc] at hc; cases hc
   simp at h; subst h
   exact pureCase _ (a.eval x) rfl (by simp [execOp,ho,hvc,asBool]) hx
  ·rename_i hcc
   rw [hcc] at hc; cases hc
   simp at h; subst h
   exact pureCase _ (a.eval y) rfl (by simp [execOp,ho,hvc,asBool]) hy
  ·rename_i b hcc
   rw [hcc] at hc; cases hc
   simp at h
   obtain ⟨z,hz,rfl⟩:=h
   refine pureCase _ (if b then a.eval x else a.eval y) rfl (by simp [execOp,ho,hvc,asBool]) (v7 hz ?_)
   cases b <;> simp [hx,hy]
  ·simp at h
 case h_4 t x ho=>
  have hx:=hev x (by simp [ho,Op.operands])
  split at h
  ·rename_i cs hcs
   simp at h; subst h
   obtain ⟨h1,h2⟩:=eA hcs hx
   refine ⟨fun K Q hK=>dZ (v:=.pointer (some ⟨w.heap.size,0,none⟩)) (w':=w.alloc (.cells (a.eval x).cells t)) ?_ (hK _ _ _ _ (Ef.box hub (by simpa using hn 0 (by simp)) h1 h2)),by simp⟩
   simp [execOp,ho,Instr.box,newVar,newRow]
  ·simp at h
 case h_5 t ho=>
  split at h
  ·rename_i cs hcs
   simp at h; subst h
   unfold N8 at hcs
   split at hcs
   ·rename_i i hinfo
    have hz:∃ zv,i.zero=some zv∧cK w U ρ cs zv.cells.toList∧∀ v∈zv.cells.toList,v.oneCell'=true:=by
     cases hz1:i.zero with
     | none=>rw [hz1] at hcs; cases hcs
     | some zv=>
      by_cases hm:zv=.map none
      ·subst hm
       rw [hz1] at hcs
       cases hcs
       refine ⟨_,rfl,⟨rfl,fun i r v hr hv=>?_⟩,fun v hv=>?_⟩
       ·cases i with
        | zero=>cases hr; exact .any _
        | succ i=>simp at hr
       have:v=Value.map none:=by simpa [Value.cells] using hv
       subst this
       rfl
      ·have hcs':cellsOf (t7 zv)=some cs:=by
        rw [hz1] at hcs
        split at hcs
        ·rename_i e; cases e; exact absurd rfl hm
        ·rename_i e; cases e; exact hcs
        ·rename_i e; cases e
       obtain ⟨h1,h2⟩:=eA hcs' (k9 (w:=w) (U:=U) (ρ:=ρ) zv)
       exact ⟨zv,rfl,h1,h2⟩
    obtain ⟨zv,hz1,h1,h2⟩:=hz
    refine ⟨fun K Q hK=>dZ (v:=.pointer (some ⟨w.heap.size,0,none⟩)) (w':=w.alloc (.cells zv.cells t)) ?_ (hK _ _ _ _ (Ef.box hub (by simpa using hn 0 (by simp)) h1 h2)),by simp⟩
    simp [execOp,ho,Instr.alloc,zeroValue,typeInfo,hinfo,hz1,newVar,newRow]
   ·cases hcs
  ·simp at h
 case h_6 t x ho=>
  have hx:=hev x (by simp [ho,Op.operands])
  obtain ⟨r,v,rfl,hrun,hr⟩:=yX h hx (fun id hid=>hfp.ob id (hin (by simp [ho,fh]) x (by simp [ho,Op.operands]) id hid))
  exact pureCase r v rfl (by simp [execOp,ho,hrun]) hr
 case h_7 t x y ho=>
  have hx:=hev x (by simp [ho,Op.operands])
  have hy:=hev y (by simp [ho,Op.operands])
  split at h
  ·obtain ⟨w',U',hrun,hef,hwr⟩:=De (n:=n) h hx hy hub hfp (fun id hid=>hin (by simp [ho,fh]) x (by simp [ho,Op.operands]) id hid)
    (fun id hid=>hin (by simp [ho,fh]) y (by simp [ho,Op.operands]) id (jW hid))
   exact ⟨fun K Q hK=>nf (by simp [execOp,ho,hrun]) (hK _ _ _ _ hef),hwr⟩
  ·obtain ⟨w',U',hrun,hef,hwr⟩:=oV (n:=n) h hx hy hub hfp (fun id hid=>hin (by simp [ho,fh]) x (by simp [ho,Op.operands]) id hid)
    (fun id hid=>hin (by simp [ho,fh]) y (by simp [ho,Op.operands]) id (jW hid))
   exact ⟨fun K Q hK=>nf (by simp [execOp,ho,hrun]) (hK _ _ _ _ hef),hwr⟩
 case h_8 t x fl ho=>
  have hx:=hev x (by simp [ho,Op.operands])
  obtain ⟨r,v,rfl,hrun,hr⟩:=E8 h hx
  exact pureCase r v rfl (by simp [execOp,ho,hrun]) hr
 case h_9 t x fl ho=>
  have hx:=hev x (by simp [ho,Op.operands])
  split at h
  ·rename_i fd cs hfd hcs
   simp at h
   obtain ⟨r,hr,rfl⟩:=h
   rw [hcs] at hx
   generalize hvx:a.eval x=vx at hx
   cases hx with
   | agg _ vs hl h1 hrr=>
   obtain ⟨v,hrun,hrv⟩:=wk hr hl h1 hrr
   unfold te at hfd
   split at hfd
   ·rename_i fs hu
    exact pureCase r v rfl (by simp [execOp,ho,hvx,Instr.field,aW hu,hfd,asAgg,hrun]) hrv
   ·cases hfd
  ·simp at h
 case h_10 t x i ho=>
  have hx:=hev x (by simp [ho,Op.operands])
  have hi:=hev i (by simp [ho,Op.operands])
  obtain ⟨r,v,rfl,hrun,hr⟩:=vG h hx hi (fun id hid=>hfp.ob id (hin (by simp [ho,fh]) x (by simp [ho,Op.operands]) id hid))
  exact pureCase r v rfl (by simp [execOp,ho,hrun]) hr
 case h_11 t x i ho=>
  have hx:=hev x (by simp [ho,Op.operands])
  have hi:=hev i (by simp [ho,Op.operands])
  obtain ⟨r,v,rfl,hrun,hr⟩:=E9 h hx hi
  exact pureCase r v rfl (by simp [execOp,ho,hrun]) hr
 case h_12 t parts ho=>
  simp at h
  obtain ⟨r,hr,rfl⟩:=h
  have hops:∀ p∈parts.toList,Rv w U ρ (ev p.2) (a.eval p.2):=fun p hp=>hev p.2 (by simp only [ho,Op.operands]; simp; exact ⟨p.1,by simpa using hp⟩)
  obtain ⟨v,hrun,hrv⟩:=Ip (w:=w) (U:=U) (ρ:=ρ) (vparts:=parts.toList.map fun p=>(p.1,a.eval p.2)) hr (by simp) (by
   have:=nN (w:=w) (U:=U) (ρ:=ρ) (ev:=ev) (g:=a.eval) (parts.toList.map (·.2)) (fun x hx=>by
    simp only [fe] at hx
    obtain ⟨p,hp,rfl⟩:=hx
    exact hops p hp)
   simpa [rY,rV] using this)
  refine pureCase r v rfl ?_ hrv
  have e1:(parts.toList.map fun p=>(p.1,a.eval p.2)).toArray=parts.map fun p=>(p.1,a.eval p.2):=by
   apply km; simp
  rw [e1] at hrun
  simp [execOp,ho,hrun]
 case h_13 t len parts ho=>
  have hops:∀ p∈parts.toList,Rv w U ρ (ev p.2) (a.eval p.2):=fun p hp=>hev p.2 (by simp only [ho,Op.operands]; simp; exact ⟨p.1,by simpa using hp⟩)
  have hrl:cK w U ρ ((parts.toList.map fun p=>(p.1,ev p.2)).map (·.2)) ((parts.toList.map fun p=>(p.1,a.eval p.2)).map (·.2)):=by
   have:=nN (w:=w) (U:=U) (ρ:=ρ) (ev:=ev) (g:=a.eval) (parts.toList.map (·.2)) (fun x hx=>by
    simp only [fe] at hx
    obtain ⟨p,hp,rfl⟩:=hx
    exact hops p hp)
   simpa [rY,rV] using this
  have e1:(parts.toList.map fun p=>(p.1,a.eval p.2)).toArray=parts.map fun p=>(p.1,a.eval p.2):=by
   apply km; simp
  split at h
  ·obtain ⟨v,w',U',ρ',hrun,hef,hwr⟩:=xF hE.toEnvOk (fp:=fp) (n:=n) (w:=w) (U:=U) (ρ:=ρ) (vps:=parts.toList.map fun p=>(p.1,a.eval p.2)) h (by simp) hrl hub hn
   refine ⟨fun K Q hK=>dZ ?_ (hK _ _ _ _ hef),hwr⟩
   rw [e1] at hrun
   simp [execOp,ho,hrun]
  ·obtain ⟨v,w',U',hrun,hef,hwr⟩:=sS hE.toEnvOk (n:=n) (w:=w) (U:=U) (ρ:=ρ) (vps:=parts.toList.map fun p=>(p.1,a.eval p.2)) h (by simp) hrl hub hfp (fun id hid=>by
    simp only [Cx,fe] at hid
    obtain ⟨q,⟨p,hp,rfl⟩,hid⟩:=hid
    exact hin (by simp [ho,fh]) p.2 (by simp only [ho,Op.operands]; simp; exact ⟨p.1,by simpa using hp⟩) id (jW hid))
   refine ⟨fun K Q hK=>dZ ?_ (hK _ _ _ _ hef),hwr⟩
   rw [e1] at hrun
   simp [execOp,ho,hrun]
 case h_14 op t x y yt ho=>
  have hx:=hev x (by simp [ho,Op.operands])
  have hy:=hev y (by simp [ho,Op.operands])
  obtain ⟨r,v,rfl,hrun,hr⟩:=Px x y h hx hy
  refine pureCase r v rfl ?_ hr
  simp only [execOp,ho]
  rw [cZ,hrun]
  rfl
 case h_15 t x ho=>
  have hx:=hev x (by simp [ho,Op.operands])
  generalize hvx:a.eval x=vx at hx
  split at h
  ·rename_i b hb
   rw [hb] at hx; cases hx
   simp at h; subst h
   exact pureCase _ (.bool (!b)) rfl (by simp [execOp,ho,hvx,Op.unary]) (.bool _)
  ·rename_i b hb
   rw [hb] at hx; cases hx
   simp at h; subst h
   exact pureCase _ (.bool (!b)) rfl (by simp [execOp,ho,hvx,Op.unary]) (.kb _)
  ·simp at h
 case h_16 t x ho=>
  have hx:=hev x (by simp [ho,Op.operands])
  generalize hvx:a.eval x=vx at hx
  split at h
  ·rename_i k b hb
   rw [hb] at hx; cases hx
   simp at h; subst h
   exact pureCase _ (.int k (k.wrap (-b))) rfl (by simp [execOp,ho,hvx,Op.unary,Op.intArith]) (.int _ _ (lM _ _))
  ·simp at h
 case h_17 src dst x ho=>
  have hx:=hev x (by simp [ho,Op.operands])
  generalize hvx:a.eval x=vx at hx
  split at h
  ·rename_i d k k' b hs hu hb
   rw [hb] at hx; cases hx
   simp at h; subst h
   exact pureCase _ (.int k (k.wrap b)) rfl (by simp [execOp,ho,hvx,convert,aW hs,aW hu,Conv.intToInt]) (.int _ _ (lM _ _))
  ·rename_i d s hs hu hb
   rw [hb] at hx
   have hh:=hx
   cases hx
   simp at h; subst h
   exact pureCase _ _ rfl (by simp [execOp,ho,hvx,convert,aW hs,aW hu]) hh
  ·rename_i el e l hs hu hb
   rw [hb] at hx
   obtain ⟨r,v,rfl,hrun,hr⟩:=E5 (src:=src) (dst:=dst) h hs hu hx
   exact pureCase r v rfl (by simp [execOp,ho,hvx,hrun]) hr
  ·simp at h
 case h_18 t x lo hi mx ho=>
  have hx:=hev x (by simp [ho,Op.operands])
  obtain ⟨v,U',hrun,hef,hwr⟩:=Dd (n:=n) (fp:=fp) (w:=w) (U:=U) (ρ:=ρ) (vlo:=lo.map a.eval) (vhi:=hi.map a.eval) (vmx:=mx.map a.eval) h hx
   (fun b v hb hv=>by cases lo <;> simp at hb hv; subst hb; subst hv; exact hev _ (by simp [ho,Op.operands]))
   (fun b v hb hv=>by cases hi <;> simp at hb hv; subst hb; subst hv; exact hev _ (by simp [ho,Op.operands]))
   (fun b v hb hv=>by cases mx <;> simp at hb hv; subst hb; subst hv; exact hev _ (by simp [ho,Op.operands])) (by cases lo <;> rfl) (by cases hi <;> rfl) (by cases mx <;> rfl) hub hfp (fun id hid=>hin (by simp [ho,fh]) x (by simp [ho,Op.operands]) id hid)
  exact ⟨fun K Q hK=>dZ (by simp [execOp,ho,hrun]) (hK _ _ _ _ hef),hwr⟩
 case h_19 x i ho=>
  have hx:=hev x (by simp [ho,Op.operands])
  generalize hvx:a.eval x=vx at hx
  split at h
  ·rename_i vs hvs
   rw [hvs] at hx
   simp at h
   obtain ⟨r,hr,rfl⟩:=h
   cases hx with
   | tup _ xs hl hrr=>
   have hlt:i < xs.length:=by rw [← hl]; exact (bM.1 hr).1
   exact pureCase r xs[i] rfl (by simp [execOp,ho,hvx,Instr.extract,zJ hlt]) (hrr i r _ hr (zJ hlt))
  ·simp at h
 case h_20 fn first caps ho=>
  simp at h; subst h
  refine pureCase _ (.func fn (first.toList.map a.eval).toArray (caps.toList.map a.eval).toArray) rfl (by simp [execOp,ho,Instr.makeFunc]; constructor <;> (apply km; simp)) ?_
  have h1:=nN (w:=w) (U:=U) (ρ:=ρ) (ev:=ev) (g:=a.eval) first.toList (fun x hx=>hev x (by simp [ho,Op.operands]; exact .inl (by simpa using hx)))
  have h2:=nN (w:=w) (U:=U) (ρ:=ρ) (ev:=ev) (g:=a.eval) caps.toList (fun x hx=>hev x (by simp [ho,Op.operands]; exact .inr (by simpa using hx)))
  exact .clo fn _ _ _ _ h1.len h2.len h1.rv h2.rv
 case h_21 x ho=>
  have hx:=hev x (by simp [ho,Op.operands])
  have hx':=hx
  generalize hvx:a.eval x=vx at hx
  split at h
  ·rename_i i j hav
   rw [hav] at hx
   simp at h; subst h
   have hh:=hx
   cases hx
   exact pureCase _ _ rfl (by simp [execOp,ho,hvx]) hh
  ·rename_i cs j hav
   rw [hav] at hx
   simp at h; subst h
   have hh:=hx
   cases hx
   exact pureCase _ _ rfl (by simp [execOp,ho,hvx]) hh
  ·rename_i i j k l hav
   rw [hav] at hx
   simp at h; subst h
   have hh:=hx
   cases hx
   exact pureCase _ _ rfl (by simp [execOp,ho,hvx]) hh
  ·rename_i g as bs hav
   rw [hav] at hx
   simp at h; subst h
   have hh:=hx
   cases hx
   exact pureCase _ _ rfl (by simp [execOp,ho,hvx]) hh
  ·simp at h
 case h_22 c ho=>
  have hm:fh o.op=true:=by simp [ho,fh]
  have hargs:∀ x∈c.args.toList,x∈o.op.operands.toList:=by
   intro x hx
   simp only [ho,Op.operands,Call.operands,Array.toList_append,bn]
   exact .inr hx
  have hrv:=nN (w:=w) (U:=U) (ρ:=ρ) (ev:=ev) (g:=a.eval) c.args.toList (fun x hx=>hev x (hargs x hx))
  unfold Le at h
  split at h
  ·rename_i fo hcal
   have hfo:fo∈o.op.operands.toList:=by simp [ho,Op.operands,Call.operands,hcal]
   have hf:=hev fo hfo
   generalize hvf:a.eval fo=vf at hf
   split at h
   ·rename_i k first caps hcl0
    split at h
    ·rename_i F hF
     have hFok:=hE.fs k F hF
     rw [hcl0] at hf
     cases hf with
     | clo _ _ _ vfi vca h1 h2 h3 h4=>
     have hall:cK w U ρ (first++c.args.toList.map ev++caps) (vfi++c.args.toList.map a.eval++vca):=(cK.append ⟨h1,h3⟩ hrv).append ⟨h2,h4⟩
     obtain ⟨hcalls,hwr⟩:=hFok.calls w U ρ hp n _ _ f fp h hall hub hgl hfp (fun id hid=>by
      obtain ⟨cc,hcc,hid⟩:=P5 hid
      simp only [bn,fe] at hcc
      rcases hcc with (hcc | ⟨x,hx,rfl⟩) | hcc
      ·exact hin hm fo hfo id (by rw [hcl0]; simp only [AV.ids,bn]; exact .inl (ff hcc hid))
      ·exact hin hm x (hargs x hx) id hid
      ·exact hin hm fo hfo id (by rw [hcl0]; simp only [AV.ids,bn]; exact .inr (ff hcc hid))) (hcl (by simp [ho,oM])) hn
     refine ⟨fun K Q hK=>?_,hwr⟩
     obtain ⟨fn,hfn,hname,hbody⟩:=hFok.fn
     have hrun:(execOp a.eval o).run E.P w=.ok (.enter k (vfi++c.args.toList.map a.eval++vca).toArray) w:=by
      simp only [execOp,ho,resolve,hcal,hvf,Deferred.ofValue,cZ,ol,jj,invoke,callFunc,run_program,hfn,hname,hbody,zH,if_false]
      congr 2
      apply km
      simp
     rw [Oper.wp,hrun]
     refine hcalls.mono fun e w' ⟨v,U',ρ',he,hef⟩=>?_
     subst he
     exact hK v w' U' ρ' hef
    ·simp at h
   ·simp at h
  ·rename_i hcal
   split at h
   ·rename_i x t hax hat
    have hc:c.args.toList.length=1:=by have:=congrArg List.length hax; simpa using this
    obtain ⟨xo,hxo⟩:∃ xo,c.args.toList=[xo]:=List.length_eq_one_iff.1 hc
    rw [hxo] at hax
    simp at hax
    subst hax
    obtain ⟨r,v,rfl,hrun,hr⟩:=Lg (P:=E.P) (w:=w) (U:=U) (ρ:=ρ) (ty:=o.type) h (hev xo (hargs xo (by simp [hxo]))) (fun id hid=>hfp.ob id (hin hm xo (hargs xo (by simp [hxo])) id hid))
    refine pureCase r v rfl ?_ hr
    have e1:c.args = #[xo]:=by apply km; simpa using hxo
    have e2:c.argTypes = #[t]:=by apply km; simpa using hat
    simp [execOp,ho,resolve,hcal,invoke,builtin,e1,e2,hrun]
   ·simp at h
  ·rename_i hcal
   split at h
   ·rename_i b x t t' hax hat
    split at h
    ·rename_i elem el' hu hu'
     have hc:c.args.toList.length=2:=by have:=congrArg List.length hax; simpa using this
     obtain ⟨bo,xo,hbx⟩:∃ bo xo,c.args.toList=[bo,xo]:=by
      match hl:c.args.toList,hc with
      | [p,q],_=>exact ⟨p,q,rfl⟩
     rw [hbx] at hax
     simp at hax
     obtain ⟨rfl,rfl⟩:=hax
     have hnn:ρ n=none:=by
      have h1:f.nw.length=1:=by
       clear hn
       unfold pI at h
       repeat' split at h
       all_goals first
        | (simp at h; done)
        | (simp at h; obtain ⟨_,rfl⟩:=h; rfl)
      simpa using hn 0 (by omega)
     obtain ⟨v,w',U',ρ',hrun,hef,hwr⟩:=Db hE.toEnvOk (w:=w) (U:=U) (ρ:=ρ) (t:=t) (t':=t') (ty:=o.type) h hu hu' (hev bo (hargs bo (by simp [hbx]))) (hev xo (hargs xo (by simp [hbx]))) hub hfp
      (fun id hid=>hin hm bo (hargs bo (by simp [hbx])) id hid) (fun id hid=>hin hm xo (hargs xo (by simp [hbx])) id hid) hnn
     refine ⟨fun K Q hK=>dZ ?_ (hK _ _ _ _ hef),hwr⟩
     have e1:c.args = #[bo,xo]:=by apply km; simpa using hbx
     have e2:c.argTypes = #[t,t']:=by apply km; simpa using hat
     simp [execOp,ho,resolve,hcal,invoke,builtin,e1,e2,hrun]
    ·simp at h
   ·simp at h
  ·rename_i hcal
   split at h
   ·rename_i x t hax hat
    have hc:c.args.toList.length=1:=by have:=congrArg List.length hax; simpa using this
    obtain ⟨xo,hbx⟩:∃ xo,c.args.toList=[xo]:=by
     match hl:c.args.toList,hc with
     | [p],_=>exact ⟨p,rfl⟩
    rw [hbx] at hax
    simp at hax
    subst hax
    obtain ⟨v,w',hrun,hef,hwr⟩:=E6 (n:=n) (w:=w) (U:=U) (ρ:=ρ) (ty:=o.type) h (hev xo (hargs xo (by simp [hbx]))) hub hfp (fun id hid=>hin hm xo (hargs xo (by simp [hbx])) id hid)
    refine ⟨fun K Q hK=>dZ ?_ (hK _ _ _ _ hef),hwr⟩
    have e1:c.args = #[xo]:=by apply km; simpa using hbx
    have e2:c.argTypes = #[t]:=by apply km; simpa using hat
    simp [execOp,ho,resolve,hcal,invoke,builtin,e1,e2,hrun]
   ·simp at h
  ·simp at h
 case h_23 t ho=>
  split at h
  ·rename_i o0 ho0
   simp at h; subst h
   have hoo:o0=.fmap []∨∃ u,o0=.vmap u []:=by
    unfold Mv at ho0
    repeat' split at ho0
    all_goals first
     | (cases ho0; exact .inl rfl)
     | (cases ho0; exact .inr ⟨_,rfl⟩)
     | (cases ho0; done)
   refine ⟨fun K Q hK=>dZ (v:=.map (some w.heap.size)) (w':=w.alloc (.map #[] 0)) ?_ (hK _ _ _ _ (Ef.mkMap hoo hub (by simpa using hn 0 (by simp)))),by simp⟩
   simp [execOp,ho,Instr.makeMap,newObj]
   rfl
  ·simp at h
 case h_24 t m k x ho=>
  obtain ⟨w',hrun,hef,hwr⟩:=sk (n:=n) h (hev m (by simp [ho,Op.operands])) (hev k (by simp [ho,Op.operands])) (hev x (by simp [ho,Op.operands])) hub hfp (fun id hid=>hin (by simp [ho,fh]) m (by simp [ho,Op.operands]) id hid)
  exact ⟨fun K Q hK=>nf (by simp [execOp,ho,hrun]) (hK _ _ _ _ hef),hwr⟩
 case h_25 t m k x ho=>
  obtain ⟨w',hrun,hef,hwr⟩:=sk (n:=n) h (hev m (by simp [ho,Op.operands])) (hev k (by simp [ho,Op.operands])) (hev x (by simp [ho,Op.operands])) hub hfp (fun id hid=>hin (by simp [ho,fh]) m (by simp [ho,Op.operands]) id hid)
  exact ⟨fun K Q hK=>nf (by simp [execOp,ho,hrun]) (hK _ _ _ _ hef),hwr⟩
 case h_26 t x i two ho=>
  obtain ⟨r,v,rfl,hrun,hr⟩:=Dc h (hev x (by simp [ho,Op.operands])) (hev i (by simp [ho,Op.operands])) (fun id hid=>hfp.ob id (hin (by simp [ho,fh]) x (by simp [ho,Op.operands]) id hid))
  exact pureCase r v rfl (by simp [execOp,ho,hrun]) hr
 case h_27 t m k ho=>
  obtain ⟨v,w',hrun,hef,hwr⟩:=E7 (n:=n) h (hev m (by simp [ho,Op.operands])) (hev k (by simp [ho,Op.operands])) hub hfp (fun id hid=>hin (by simp [ho,fh]) m (by simp [ho,Op.operands]) id hid)
  exact ⟨fun K Q hK=>dZ (by simp [execOp,ho,hrun]) (hK _ _ _ _ hef),hwr⟩
 case h_28 t m s x ho=>
  obtain ⟨w',hrun,hef,hwr⟩:=sU (P:=E.P) (t:=t) (n:=n) h (hev m (by simp [ho,Op.operands])) (hev s (by simp [ho,Op.operands])) (hev x (by simp [ho,Op.operands])) hub hfp (fun id hid=>hin (by simp [ho,fh]) m (by simp [ho,Op.operands]) id hid)
  exact ⟨fun K Q hK=>nf (by simp [execOp,ho,hrun]) (hK _ _ _ _ hef),hwr⟩
 case h_29=>simp at h

end
end Cad
