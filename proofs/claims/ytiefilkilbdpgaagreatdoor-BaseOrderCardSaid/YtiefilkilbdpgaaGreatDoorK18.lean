/- The law BaseOrder answers true. From what is handed in to plain data. From a contract over plain data to a law's statement. The law BaseOrder answers true: as a call. What the package variables hold when a law begins. Laws of any parameters: the contract. -/
import Derived.Test.YtiefilkilbdpgaaGreatDoorK17
import Derived.Test.YtiefilkilbdpgaaGreatDoorK09
import Derived.Carry
import Derived.ChangeSame
import Derived.RowKit3
import Derived.WideKeyArgs
import Derived.Test.YtiefilkilbdpgaaGreatDoorK06
import Derived.Test.YtiefilkilbdpgaaGreatDoorRows
import Derived.OpenShut
import Derived.ProofKit
import Derived.Test.YtiefilkilbdpgaaGreatDoorK11
import Derived.Test.YtiefilkilbdpgaaGreatDoorK12
namespace Cad
open Go Go.Proofs
set_option maxHeartbeats 4000000

theorem ey.q {x:Sem zh} (h:ey x) (hr:dg x):rO x:=by
 obtain ⟨_,_,_,h8,_⟩:=jx hr.may
 exact ⟨dC h8 (by omega),dC h.sh.uq (by omega),dC h.sh.rf (by omega),h.cp,dC h.sh.rw (by omega),fun r hr'=>dC (hr.len r hr') (by omega)⟩
theorem Ni {a b:List (Sem zh)} (hB:cP a) (hs:∀ y∈a,ey y) (h:a=b):rp a b=true∧pG a b=true:=by
 obtain ⟨h1,h2⟩:=GN (b:=b) (dC hB.few (by omega)) (fun y hy=>(hs y hy).q (hB.rels y hy))
 exact ⟨h1,h2.2 h⟩

theorem Fw (x:Int) (n:Nat) (h0:0≤x) (h1:x≤100000) (hn:0 < n) (hn2:n≤100000):IntKind.i64.wrap (x.tmod (n:Int))=((x.toNat % n:Nat):Int):=by
 obtain ⟨y,rfl⟩:=Int.eq_ofNat_of_zero_le h0
 have e:(Int.ofNat y).tmod (n:Int)=((y % n:Nat):Int):=rfl
 have hl:y % n < n:=Nat.mod_lt _ hn
 show IntKind.i64.wrap ((Int.ofNat y).tmod (n:Int))=_
 rw [e,wI _ (by omega) (by omega)]
 rfl

abbrev SC (n:zq) (r:List (Sem zf)):Sem zx:=(MP,n,[],[],[],[],[],[],ze.mk [] (0,0,[]) [] [],r,[],ze.mk [] (0,0,[]) [] [],[])
theorem Bo (n:zq) (r:List (Sem zf)):∃ s:Sem zx,yo (SC n r)=true∧EA (SC n r)=s∧iO s∧s.1=MP∧s.2.1=aO n∧GR s=fY r:=by
 obtain ⟨s,s1,s2,s3⟩:=C9 (SC n r)
 refine ⟨s,by unfold yo; rw [s1]; rfl,by unfold EA; rw [s1]; rfl,s2.sh,congrArg (·.1) s3.fr,congrArg (·.2.1) s3.fr,s3.row⟩

theorem MR (rows:List (List (Sem zf))) (t:Int) (n:zq) (db:List (Sem zh)) (h0:0≤t) (h1:t≤255) (hne:rows≠[]) (hl:rows.length≤8) (hf:∀ l d,mA (aO n) db l d→l≠[]→(0:Int)≤ar db (aO n)):
  ∀ (m i:Nat) (a b:List (Sem zh)),rows.length - i=m→i≤rows.length→mA (aO n) db ((rows.take i).map fY) a→mA (aO n) db ((List.range i).map fun j=>fY (rows.getD ((j+t.toNat) % rows.length) (zj zf.sl))) b→cP a→cP b→(∀ y∈a,ey y)→(∀ y∈b,ey y)→
  ∃ r,bv Uh (m+1) (.h9 rows t n a b (i:Int)) (.bool r,[])∧r=true:=by
 have hn:0 < rows.length:=List.length_pos_iff.2 hne
 intro m
 induction m with
 | zero=>
  intro i a b hm hi ha hb hB hB' hs hs'
  obtain rfl:i=rows.length:=by omega
  have e:a=b:=by
   refine mA.order ha hb ?_ hB hB' (hf _ _ ha (by simpa using hne))
   rw [List.take_length]
   have hp:=G1 (l:=rows) (d:=zj zf.sl) (t:=t.toNat) hne
   have:=(hp.map fY).symm
   rwa [nD] at this
  obtain ⟨q1,q2⟩:=Ni hB hs e
  refine ⟨nH,bv.of ?_,xE⟩
  simp only [Uh,Tr.val,af,q1,q2,HA,bG,Bool.and_self,zR,if_true,if_false]
 | succ m IH=>
  intro i a b hm hi ha hb hB hB' hs hs'
  have hlt:i < rows.length:=by omega
  have e1:IntKind.i64.wrap ((IntKind.i64.wrap ((i:Int)+IntKind.i64.wrap t)).tmod (rows.length:Int))=(((i+t.toNat) % rows.length:Nat):Int):=by
   rw [wI t (by omega) (by omega),wI ((i:Int)+t) (by omega) (by omega),Fw _ _ (by omega) (by omega) hn (by omega)]
   congr 2
   omega
  have hk:(i+t.toNat) % rows.length < rows.length:=Nat.mod_lt _ hn
  have e2:zJ (((i+t.toNat) % rows.length:Nat):Int) rows.length=true:=zF hk
  have e3:((rows.length:Int) != 0)=true:=by simp; omega
  obtain ⟨s,s1,s2,s3,s4,s5,s6⟩:=Bo n (rows.getD i (zj zf.sl))
  obtain ⟨u,u1,u2,u3,u4,u5,u6⟩:=Bo n (rows.getD ((i+t.toNat) % rows.length) (zj zf.sl))
  obtain ⟨d,x,d1,d2,d3,_⟩:=OP hs s3 s4
  obtain ⟨d',x',d1',d2',d3',_⟩:=OP hs' u3 u4
  obtain ⟨g1,g2⟩:=OQ d1
  obtain ⟨g1',g2'⟩:=OQ d1'
  have hv:∀ c:Bool,(bif x.1 != 0 then true else x'.1 != 0)=c→(Uh (.h9 rows t n a b (i:Int))).val=if c=true then some (.inr (.bool nH,[])) else some (.inl (.h9 rows t n d d' ((i+1:Nat):Int))):=by
   intro c hc
   simp only [Uh,Tr.val,zt,Prod.eta,zV hlt,zF hlt,e1,e2,e3,bP,s1,s2,u1,u2,g1,g2,g1',g2',hc,if_true,zG i (by unfold zD; omega)]
  by_cases he:x.1=0∧x'.1=0
  ·have hc:(bif x.1 != 0 then true else x'.1 != 0)=false:=by rw [he.1,he.2]; rfl
   have hg:=hv false hc
   rw [if_neg (by simp)] at hg
   obtain ⟨i1,i2,_⟩:=d3 he.1
   obtain ⟨j1,j2,_⟩:=d3' he.2
   rw [s5,s6] at i1
   rw [u5,u6] at j1
   obtain ⟨_,_,_,_,_,hd⟩:=i1
   obtain ⟨_,_,_,_,_,hd'⟩:=j1
   obtain ⟨i1,_,_⟩:=d3 he.1
   obtain ⟨j1,_,_⟩:=d3' he.2
   rw [s5,s6] at i1
   rw [u5,u6] at j1
   obtain ⟨r,r1,r2⟩:=IH (i+1) d d' (by omega) (by omega) (by
    rw [Fv hlt,rY]
    have:=mA.snoc ha i1
    rw [aB,zI hlt] at this
    exact this) (by
    rw [List.range_succ,rY]
    exact mA.snoc hb j1) hd hd' d2 d2'
   exact ⟨r,((aM.of hg).ends r1).mono (by omega),r2⟩
  ·have hc:(bif x.1 != 0 then true else x'.1 != 0)=true:=by
    cases hx:(x.1 != 0) with
    | true=>rfl
    | false=>
     simp only [bS]
     simp only [bne_eq_false_iff_eq] at hx
     simpa using fun h=>he ⟨hx,h⟩
   have hg:=hv true hc
   rw [if_pos rfl] at hg
   exact ⟨nH,(bv.of hg).mono (by omega),xE⟩

theorem MS (x0:List (Sem zh)) (x1:List (List (Sem zf))) (x2:Int) (h0:0≤x2) (h1:x2≤255):Bt x0 x1 x2=some (true,()):=by
 obtain ⟨db,d1,d2,d3⟩:=Gv x0
 have hdb:jw x0=db:=by unfold jw; rw [d1]; rfl
 have hdc:Db x0=true:=by unfold Db; rw [d1]; rfl
 have hsr:∀ y∈db,dZ y:=fun y hy=>(d3 y hy).sh
 have hbc:=jR hsr
 have fin:∀ {v:Bool},(Ue x0 x1 x2).val=some (.inr (.bool v,[]))→v=true→Bt x0 x1 x2=some (true,()):=by
  intro v h e
  subst e
  exact f4 h rfl
 cases hc:(bif iQ db != 0 then true else bif (↑(List.length db):Int)==0 then true else (↑(List.length x1):Int)==0) with
 | true=>
  refine fin (v:=nH) ?_ xE
  simp only [Ue,Tr.val,hdb,hdc,hbc,hc,if_true]
 | false=>
  have hB:cP db:=(lN hsr).1 (by
   cases h:(iQ db != 0) with
   | true=>rw [h] at hc; cases hc
   | false=>simpa using h)
  have hb0:(iQ db != 0)=false:=by simpa using (lN hsr).2 hB
  rw [hb0] at hc
  simp only [bS] at hc
  have hdl:0 < db.length:=by
   cases h:((↑(List.length db):Int)==0) with
   | true=>rw [h] at hc; cases hc
   | false=>simp at h; exact List.length_pos_iff.2 h
  have hd0:((↑(List.length db):Int)==0)=false:=by simpa using List.length_pos_iff.1 hdl
  rw [hd0] at hc
  simp only [bS] at hc
  have hx1:x1≠[]:=by
   intro h
   rw [h] at hc
   cases hc
  have ea:IntKind.i64.wrap ((IntKind.i64.wrap x2).tmod (db.length:Int))=((x2.toNat % db.length:Nat):Int):=by
   rw [wI x2 (by omega) (by omega),Fw _ _ h0 (by omega) hdl (by omega)]
  have hk:x2.toNat % db.length < db.length:=Nat.mod_lt _ hdl
  have e2:zJ ((x2.toNat % db.length:Nat):Int) db.length=true:=zF hk
  have e3:((db.length:Int) != 0)=true:=by simpa using List.length_pos_iff.1 hdl
  generalize hname:(db.getD (x2.toNat % db.length) (zj zh)).1.1=nm
  have hfn:∀ l d,mA (aO nm) db l d→(0:Int)≤ar db (aO nm)∨(l=[]∧d=db):=by
   intro l d h
   induction h with
   | nil=>exact .inr ⟨rfl,rfl⟩
   | snoc h hi IH=>
    rcases IH with h1 | ⟨rfl,rfl⟩
    ·exact .inl h1
    ·obtain ⟨i,_,hi,_⟩:=hi
     exact .inl (by rw [hi]; omega)
  have hfnd:∀ l d,mA (aO nm) db l d→l≠[]→(0:Int)≤ar db (aO nm):=fun l d h hl=>(hfn l d h).resolve_right fun h=>hl h.1
  have go:∀ rows:List (List (Sem zf)),rows≠[]→rows.length≤8→∃ r,bv Uh (rows.length+1) (.h9 rows x2 nm db db 0) (.bool r,[])∧r=true:=by
   intro rows hr hl
   exact MR rows x2 nm db h0 h1 hr hl hfnd rows.length 0 db db rfl (be _) .nil .nil hB hB d3 d3
  have hv:(Ue x0 x1 x2).val=some (.inl (.h9 (if x1.length > 8 then x1.take 8 else x1) x2 nm db db 0)):=by
   by_cases h8:x1.length > 8
   ·have h8':decide ((↑(List.length x1):Int) > 8)=true:=by simp; omega
    rw [if_pos h8]
    simp only [Ue,Tr.val,hdb,hdc,hbc,hb0,hd0,hc,ea,e2,e3,h8',bP,hname,bS,zR,if_true,if_false]
    rw [if_pos (by simp; omega)]
    rfl
   ·have h8':decide ((↑(List.length x1):Int) > 8)=false:=by simp; omega
    rw [if_neg h8]
    simp only [Ue,Tr.val,hdb,hdc,hbc,hb0,hd0,hc,ea,e2,e3,h8',bP,hname,bS,zR,if_true,if_false]
  obtain ⟨r,r1,r2⟩:=go (if x1.length > 8 then x1.take 8 else x1) (by
   split
   ·intro h
    have:=congrArg List.length h
    simp at this
    exact hx1 this
   ·exact hx1) (by
   split
   ·simp; omega
   ·omega)
  subst r2
  exact bC hv r1 (by
   have:(if x1.length > 8 then x1.take 8 else x1).length≤8:=by
    split
    ·simp; omega
    ·omega
   omega) rfl
open Go

abbrev U0:Nat→Prop:=fun _=>False
abbrev fq:Nat→Option Value:=fun _=>none

def G9 (P:Program) (T:TypeId→Sh→Bool):List Field→Nat→Sh→Bool
 | [],_,_=>false
 | [f],off,s=>f.offset==off&&(T f.type s&&P.cellsOf f.type==s.size)
 | f::fs,off,.pr a b=>f.offset==off&&(T f.type a&&(P.cellsOf f.type==a.size&&G9 P T fs (off+a.size) b))
 | _,_,_=>false

def l7 (P:Program) (t:TypeId):Bool:=match P.underlying t with
 | some .string=>P.cellsOf t==1
 | _=>false

def Ey (P:Program) (t e:TypeId):Bool:=match P.underlying t with
 | some (.slice u)=>u==e&&P.cellsOf t==1
 | _=>false

def DR (P:Program):Nat→TypeId→Sh→Bool
 | 0,_,_=>false
 | n+1,t,s=>match P.underlying t,s with
  | some .bool,.bool=>true
  | some (.int k),.int k'=>k==k'
  | some .string,.str=>true
  | some (.slice e),.sl s=>P.cellsOf e==s.size&&(decide (0 < s.size)&&DR P n e s)
  | some (.struct fs),.expr=>match fs.toList with
   | [a,b,c,d]=>P.cellsOf t==6&&(a.offset==0&&(b.offset==1&&(c.offset==4&&(d.offset==5&&(l7 P a.type&&(l7 P c.type&&(Ey P d.type t&&(P.cellsOf b.type==3&&DR P n b.type (.pr (.int .i64) (.pr (.int .i64) .str))))))))))
   | _=>false
  | some (.struct fs),.pr a b=>P.cellsOf t==(Sh.pr a b).size&&G9 P (DR P n) fs.toList 0 (.pr a b)
  | _,_=>false

section
variable {H:Type} {enc:TypeId×Value→H} {P:Program} {w:World} {sp:Nat→Bool} {held:Bool}

def Ry (w:World) (s:Sh) (cs:List Value):Prop:=∃ x:Sem s,ce w U0 fq (zl s x) cs∧∀ v∈cs,v.oneCell'=true

theorem bR {α β:Type} {f:α→Option β} {a:α} {l:List α} {r:List β} (h:(a::l).mapM f=some r):∃ y ys,f a=some y∧l.mapM f=some ys∧r=y::ys:=by
 rw [List.mapM_cons] at h
 cases hy:f a with
 | none=>rw [hy] at h; simp at h
 | some y=>
  cases hys:l.mapM f with
  | none=>rw [hy,hys] at h; simp at h
  | some ys=>
   rw [hy,hys] at h
   simp at h
   exact ⟨y,ys,rfl,rfl,h.symm⟩

theorem Bw {α β:Type} {f:α→Option β}:∀ {l:List α} {r:List β},l.mapM f=some r→∀ x∈l,∃ y,f x=some y
 | [],_,_,_,hx=>by simp at hx
 | a::l,r,h,x,hx=>by
  obtain ⟨y,ys,h1,h2,_⟩:=bR h
  rcases dV.1 hx with rfl | hx
  ·exact ⟨y,h1⟩
  ·exact Bw h2 x hx

theorem tO {α β:Type} {f:α→Option β}:∀ {l:List α} {r:List β},l.mapM f=some r→r.length=l.length∧∀ (i:Nat) a,l[i]?=some a→f a=r[i]?
 | [],r,h=>by simp at h; subst h; simp
 | a::l,r,h=>by
  obtain ⟨y,ys,h1,h2,rfl⟩:=bR h
  obtain ⟨h3,h4⟩:=tO h2
  refine ⟨by simp [h3],fun i b hi=>?_⟩
  cases i with
  | zero=>simp at hi; subst hi; simpa using h1
  | succ i=>simpa using h4 i b (by simpa using hi)

theorem Av (a:Addr) (h:a.spot=none) (n:Nat):a.add n=⟨a.block,a.off+n,none⟩:=by
 obtain ⟨b,o,s⟩:=a
 simp only at h
 subst h
 unfold Addr.add
 split
 ·rename_i h; subst h; rfl
 ·rfl

theorem ce.take {cs:List AV} {vs:List Value} (h:ce w U0 fq cs vs) (n:Nat):ce w U0 fq (cs.take n) (vs.take n):=by
 refine ⟨by simp [h.len],fun j c v hc hv=>?_⟩
 rw [vZ] at hc hv
 split at hc
 ·rename_i hj
  rw [if_pos hj] at hv
  exact h.rv j c v hc hv
 ·cases hc

theorem ce.appS {a b:List AV} {x y:List Value} (h:ce w U0 fq a x) (h':ce w U0 fq b y):ce w U0 fq (a++b) (x++y):=by
 refine ⟨by simp [h.len,h'.len],fun j c v hc hv=>?_⟩
 by_cases hj:j < a.length
 ·rw [iw hj] at hc
  rw [iw (by rw [← h.len]; exact hj)] at hv
  exact h.rv j c v hc hv
 ·rw [jg (by omega)] at hc
  rw [jg (by rw [← h.len]; omega),← h.len] at hv
  exact h'.rv _ c v hc hv

theorem ce.one {c:AV} {v:Value} (h:Rv w U0 fq c v):ce w U0 fq [c] [v]:=by
 refine ⟨rfl,fun j d u hd hu=>?_⟩
 cases j with
 | zero=>simp at hd hu; subst hd; subst hu; exact h
 | succ j=>simp at hd

theorem tw {fuel:Nat} {T:TypeId→Sh→Bool} (hT:∀ t s cs d ps,T t s=true→DataW.trod enc P w 0 sp held fuel t cs=some (d,ps)→Ry w s cs) {cs:List Value}:
  ∀ (fl:List Field) (off:Nat) (s:Sh) xs,G9 P T fl off s=true→(fl.mapM fun f=>DataW.trod enc P w 0 sp held fuel f.type ((cs.drop f.offset).take (P.cellsOf f.type)))=some xs→Ry w s ((cs.drop off).take s.size)
 | [],_,_,_,h,_=>by simp [G9] at h
 | [f],off,s,xs,h,hm=>by
  simp only [G9,aE,eG] at h
  obtain ⟨h1,h2,h3⟩:=h
  obtain ⟨y,ys,hy,_,_⟩:=bR hm
  rw [h1,h3] at hy
  exact hT _ _ _ _ _ h2 hy
 | f::g::fs,off,.pr a b,xs,h,hm=>by
  simp only [G9,aE,eG] at h
  obtain ⟨h1,h2,h3,h4⟩:=h
  obtain ⟨y,ys,hy,hys,_⟩:=bR hm
  rw [h1,h3] at hy
  obtain ⟨x1,r1,o1⟩:=hT _ _ _ _ _ h2 hy
  obtain ⟨x2,r2,o2⟩:=tw hT (g::fs) (off+a.size) b ys h4 hys
  have hl1:((cs.drop off).take a.size).length=a.size:=by rw [← r1.len,zL]
  have hsplit:(cs.drop off).take (a.size+b.size)=(cs.drop off).take a.size++(cs.drop (off+a.size)).take b.size:=by
   rw [List.take_add,List.drop_drop]
  refine ⟨(x1,x2),?_,?_⟩
  ·show ce w U0 fq (zl a x1++zl b x2) ((cs.drop off).take (a.size+b.size))
   rw [hsplit]
   exact r1.appS r2
  ·intro v hv
   have hv:v∈(cs.drop off).take (a.size+b.size):=hv
   rw [hsplit,bl] at hv
   exact hv.elim (o1 v) (o2 v)
 | _::_::_,_,.unit,_,h,_=>by simp [G9] at h
 | _::_::_,_,.bool,_,h,_=>by simp [G9] at h
 | _::_::_,_,.int _,_,h,_=>by simp [G9] at h
 | _::_::_,_,.str,_,h,_=>by simp [G9] at h
 | _::_::_,_,.sl _,_,h,_=>by simp [G9] at h
 | _::_::_,_,.expr,_,h,_=>by simp [G9] at h

theorem xm {fuel:Nat} {t e:TypeId} {s:Sh} (ht:P.underlying t=some (.slice e)) (hc:P.cellsOf e=s.size) (hpos:0 < s.size)
  (hT:∀ cs d ps,DataW.trod enc P w 0 sp held fuel e cs=some (d,ps)→Ry w s cs) {cs:List Value} {d:DataW H} {ps:List MemPlace} (h:DataW.trod enc P w 0 sp held (fuel+1) t cs=some (d,ps)):Ry w (.sl s) cs:=by
 unfold DataW.trod at h
 rw [ht] at h
 split at h
 all_goals first
  | (rename_i hu; cases hu; done)
  | (rename_i hu _; cases hu; done)
  | (simp at h; done)
  | skip
 ·rename_i hu
  cases hu
  exact ⟨[],ce.one (.sl0 s none 0),by simp [Value.oneCell']⟩
 ·rename_i a len cap hu
  cases hu
  simp only [be,true_and] at h
  split at h
  ·rename_i hcond
   rw [dT] at h
   obtain ⟨elems,he,_⟩:=h
   have hall:∀ i,∃ x:Sem s,i < len→∃ ci,w.cells? 0 (a.add (i * s.size)) s.size=some ci∧ce w U0 fq (zl s x) ci:=by
    intro i
    by_cases hi:i < len
    ·obtain ⟨y,hy⟩:=Bw he i (by simpa using hi)
     rw [dT] at hy
     obtain ⟨ci,h1,h2⟩:=hy
     obtain ⟨x,hx,_⟩:=hT ci y.1 y.2 h2
     rw [hc] at h1
     exact ⟨x,fun _=>⟨ci,h1,hx⟩⟩
    ·exact ⟨zj s,fun h=>(hi h).elim⟩
   obtain ⟨X,hX⟩:=Classical.axiomOfChoice hall
   have hmax:maxLen=zD:=rfl
   cases len with
   | zero=>exact ⟨[],ce.one (.sl0 s (some a) cap),by simp [Value.oneCell']⟩
   | succ len=>
    have hcell:∀ i,i < len+1→∃ ci,ci.length=s.size∧(∀ j,j < s.size→w.cell? ((a.add (i * s.size)).add j)=ci[j]?)∧ce w U0 fq (zl s (X i)) ci:=by
     intro i hi
     obtain ⟨ci,h1,h2⟩:=hX i hi
     unfold World.cells? at h1
     rw [if_pos (be _)] at h1
     obtain ⟨h3,h4⟩:=tO h1
     refine ⟨ci,by simpa using h3,fun j hj=>?_,h2⟩
     exact h4 j j (by simp [hj])
    have hspot:a.spot=none:=by
     obtain ⟨ci,h1,h2,_⟩:=hcell 0 (by omega)
     have:=h2 0 hpos
     simp only [Nat.zero_mul,Addr.add,if_true] at this
     rw [zI (by omega)] at this
     unfold World.cell? at this
     split at this
     ·split at this
      ·cases this
      ·rename_i hs
       cases hsp:a.spot with
       | none=>rfl
       | some q=>rw [hsp] at hs; simp at hs
     ·cases this
    have hblk:a.block < w.heap.size:=by
     obtain ⟨ci,h1,h2,_⟩:=hcell 0 (by omega)
     have:=h2 0 hpos
     simp only [Nat.zero_mul,Addr.add,if_true] at this
     rw [zI (by omega)] at this
     have ha:a=⟨a.block,a.off,none⟩:=by rw [← hspot]
     rw [ha] at this
     exact xH this
    have hci:∀ i,∃ ci:List Value,i < len+1→ci.length=s.size∧(∀ j,j < s.size→w.cell? ⟨a.block,a.off+i * s.size+j,none⟩=ci[j]?)∧ce w U0 fq (zl s (X i)) ci:=by
     intro i
     by_cases hi:i < len+1
     ·obtain ⟨ci,h1,h2,h3⟩:=hcell i hi
      refine ⟨ci,fun _=>⟨h1,fun j hj=>?_,h3⟩⟩
      rw [← h2 j hj,Av a hspot,Av _ rfl]
     ·exact ⟨[],fun h=>(hi h).elim⟩
    obtain ⟨Cs,hCs⟩:=Classical.axiomOfChoice hci
    let l:List (Sem s):=(List.range (len+1)).map X
    have hl:l.length=len+1:=by simp [l]
    have hget:∀ i (hi:i < l.length),l[i]=X i:=by intro i hi; simp [l]
    refine ⟨l,ce.one ?_,by simp [Value.oneCell']⟩
    have ha:a=⟨a.block,a.off,none⟩:=by rw [← hspot]
    rw [ha,← hl]
    refine .sl s l a.block a.off cap (fun i j=>((Cs i)[j]?).getD undef) (by omega) (by omega) hblk (fun h=>h) ?_ ?_
    ·intro i j hi hj
     obtain ⟨h1,h2,_⟩:=hCs i (by omega)
     rw [h2 j hj,zI (by omega)]
     rfl
    ·intro i hi j c hc'
     obtain ⟨h1,_,h3⟩:=hCs i (by omega)
     rw [hget i hi] at hc'
     have hj:j < (Cs i).length:=by
      have:=(bD.1 hc').1
      rw [h3.len] at this
      exact this
     have:=h3.rv j c _ hc' (zI hj)
     rw [zI hj]
     exact this
  ·cases h

theorem y5 {fuel:Nat} {t:TypeId} (ht:P.underlying t=some .string) {cs:List Value} {d:DataW H} {ps:List MemPlace} (h:DataW.trod enc P w 0 sp held fuel t cs=some (d,ps)):Ry w .str cs:=by
 cases fuel with
 | zero=>simp [DataW.trod] at h
 | succ fuel=>
  unfold DataW.trod at h
  rw [ht] at h
  split at h
  all_goals first
   | (rename_i hu; cases hu; done)
   | (rename_i hu _; cases hu; done)
   | (simp at h; done)
   | skip
  rename_i s hu
  split at h
  ·rename_i hs
   refine ⟨s.data.toList,ce.one ?_,by simp [Value.oneCell']⟩
   have h9:maxLen=zD:=rfl
   have h8:s.size=s.data.toList.length:=rfl
   exact .str s.data.toList (by omega)
  ·cases h

theorem tH {t:TypeId} (h:l7 P t=true):P.underlying t=some .string∧P.cellsOf t=1:=by
 unfold l7 at h
 split at h
 ·rename_i hu; exact ⟨hu,by simpa using h⟩
 ·cases h

theorem IN {t e:TypeId} (h:Ey P t e=true):P.underlying t=some (.slice e)∧P.cellsOf t=1:=by
 unfold Ey at h
 split at h
 ·rename_i u hu
  simp only [aE,eG] at h
  rw [← h.1]
  exact ⟨hu,h.2⟩
 ·cases h

theorem lG:∀ (fuel n:Nat) (t:TypeId) (s:Sh) (cs:List Value) (d:DataW H) (ps:List MemPlace),DR P n t s=true→DataW.trod enc P w 0 sp held fuel t cs=some (d,ps)→Ry w s cs
 | 0,_,_,_,_,_,_,_,h=>by simp [DataW.trod] at h
 | fuel+1,0,_,_,_,_,_,hty,_=>by simp [DR] at hty
 | fuel+1,n+1,t,s,cs,d,ps,hty,h=>by
  have h0:=h
  unfold DR at hty
  split at hty
  ·rename_i hu
   unfold DataW.trod at h
   rw [hu] at h
   split at h
   all_goals first
    | (rename_i hu'; cases hu'; done)
    | (rename_i hu' _; cases hu'; done)
    | (simp at h; done)
    | skip
   exact ⟨_,ce.one (.bool _),by simp [Value.oneCell']⟩
  ·rename_i k k' hu
   have hk:k=k':=by simpa using hty
   subst hk
   unfold DataW.trod at h
   rw [hu] at h
   split at h
   all_goals first
    | (rename_i hu'; cases hu'; done)
    | (rename_i hu' _; cases hu'; done)
    | (simp at h; done)
    | skip
   rename_i k1 k2 m hu'
   cases hu'
   split at h
   ·rename_i hw
    obtain ⟨rfl,hw⟩:=hw
    simp only [Lit.wf,aE,ah] at hw
    exact ⟨m,ce.one (.int _ _ ⟨hw.1,hw.2⟩),by simp [Value.oneCell']⟩
   ·cases h
  ·rename_i hu
   exact y5 hu h
  ·rename_i e s hu
   simp only [aE,eG,ah] at hty
   exact xm hu hty.1 hty.2.1 (fun cs d ps h=>lG fuel n e s cs d ps hty.2.2 h) h
  ·rename_i fs hu
   split at hty
   ·rename_i a b c d' hfs
    simp only [aE,eG] at hty
    obtain ⟨hsz,ha,hb,hc,hd,sa,sc,sd,zb,tb⟩:=hty
    obtain ⟨sa,za⟩:=tH sa
    obtain ⟨sc,zc⟩:=tH sc
    obtain ⟨sd,zd⟩:=IN sd
    unfold DataW.trod at h
    rw [hu] at h
    simp only at h
    split at h
    ·rename_i hlen
     rw [c6] at h
     obtain ⟨xs,hm,_⟩:=h
     rw [hfs] at hm
     obtain ⟨ya,r1,ya1,hm,_⟩:=bR hm
     obtain ⟨yb,r2,yb1,hm,_⟩:=bR hm
     obtain ⟨yc,r3,yc1,hm,_⟩:=bR hm
     obtain ⟨yd,r4,yd1,hm,_⟩:=bR hm
     rw [ha,za] at ya1
     rw [hb,zb] at yb1
     rw [hc,zc] at yc1
     rw [hd,zd] at yd1
     obtain ⟨xa,ga,oa⟩:=y5 sa ya1
     obtain ⟨xb,gb,ob⟩:=lG fuel n b.type _ _ _ _ tb yb1
     obtain ⟨xc,gc,oc⟩:=y5 sc yc1
     have hgd:Ry w (.sl .expr) ((cs.drop 5).take 1):=by
      cases fuel with
      | zero=>simp [DataW.trod] at yd1
      | succ fuel=>
       refine xm sd (by rw [hsz]; rfl) (by decide) (fun cs d ps h=>lG fuel (n+1) t .expr cs d ps ?_ h) yd1
       unfold DR
       rw [hu]
       simp only [hfs,aE,eG]
       refine ⟨hsz,ha,hb,hc,hd,?_,?_,?_,zb,tb⟩
       ·simp [l7,sa,za]
       ·simp [l7,sc,zc]
       ·simp [Ey,sd,zd]
     obtain ⟨xd,gd,od⟩:=hgd
     have hl6:cs.length=6:=by rw [hlen,hsz]
     have hcs:cs=(cs.drop 0).take 1++((cs.drop 1).take 3++((cs.drop 4).take 1++(cs.drop 5).take 1)):=by
      match cs,hl6 with
      | [v0,v1,v2,v3,v4,v5],_=>rfl
     refine ⟨ze.mk xa xb xc xd,?_,?_⟩
     ·have hr:=ga.appS (gb.appS (gc.appS gd))
      rw [← hcs] at hr
      exact hr
     ·intro v hv
      rw [hcs] at hv
      simp only [bl] at hv
      rcases hv with hv | hv | hv | hv
      ·exact oa v hv
      ·exact ob v hv
      ·exact oc v hv
      ·exact od v hv
    ·cases h
   ·cases hty
  ·rename_i fs a b hu
   simp only [aE,eG] at hty
   unfold DataW.trod at h
   rw [hu] at h
   simp only at h
   split at h
   ·rename_i hlen
    rw [c6] at h
    obtain ⟨xs,hm,_⟩:=h
    have:=tw (fun t s cs d ps h1 h2=>lG fuel n t s cs d ps h1 h2) fs.toList 0 (.pr a b) xs hty.2 hm
    rw [List.drop_zero,List.take_of_length_le (by rw [hlen,hty.1]; exact aS _)] at this
    exact this
   ·cases h
  ·cases hty
termination_by fuel=>fuel

theorem qR {n:Nat} {t:TypeId} {s:Sh} {v:Value} {d:DataW H} {ps:List MemPlace} (hty:DR P n t s=true) (h:DataW.Trod enc P w 0 sp held t v d ps) (hagg:(∃ cs,v=.agg cs)↔s.isAgg=true) (hsc:s.isAgg=false→v.cells = #[v]):∃ x:Sem s,Rv w U0 fq (zy s x) v:=by
 obtain ⟨fuel,h⟩:=h
 obtain ⟨x,hr,ho⟩:=lG fuel n t s _ d ps hty h
 refine ⟨x,?_⟩
 unfold zy
 cases hs:s.isAgg with
 | true=>
  obtain ⟨cs,rfl⟩:=hagg.2 hs
  simp only
  have:=Rv.agg (w:=w) (U:=U0) (ρ:=fq) (zl s x) cs.toList hr.len ho hr.rv
  simpa using this
 | false=>
  simp only
  rw [hsc hs] at hr
  have hlen:=hr.len
  match he:zl s x,hlen with
  | [c],_=>
   rw [he] at hr
   exact hr.rv 0 c v rfl rfl
end
open Go Go.RowKit Go.ChangeShapes

theorem yn {W W':World} (hos:W'.os=W.os) (hout:W'.output=W.output) (h:∀ b,b < W.heap.size→W'.heap[b]?=W.heap[b]?) (may:MemPlace→Prop):W.keptBut W' may:=by
 refine ⟨hos,hout,fun i hi=>?_⟩
 rw [h i hi]
 cases W.heap[i]? with
 | none=>rfl
 | some o=>
  cases o with
  | cells c t fr=>exact ⟨rfl,rfl,rfl,fun _ _=>rfl⟩
  | map es clock=>exact .inr ⟨rfl,rfl⟩
  | _=>rfl

section
variable {H:Type} {enc:TypeId×Value→H} {P:Program}

theorem BD {f:Func} {s:ChangeSpec} {fresh handsOn again:Bool} {W W':World} {args:Array Value} {v:Value} {ds gs:List (DataW H)} {before pa pv:List MemPlace}
  (hW:DataW.Whole enc P f.params.toList s.vars false W args.toList ds gs before)
  (hres:∀ (b:Nat) (sp:Nat→Bool) (hd:Bool),DataW.TrodAll enc P W' b sp hd f.resultTypes.toList (v.resultList f.resultTypes.size) (s.fn H (ds++gs)).results [])
  (hargs:∀ sp:Nat→Bool,(∀ p∈before,sp p.block=true)→DataW.TrodAll enc P W' 0 sp true f.params.toList args.toList (s.fn H (ds++gs)).args pa)
  (hvars:∀ sp:Nat→Bool,(∀ p∈before,sp p.block=true)→DataW.TrodVars enc P W' sp s.vars (s.fn H (ds++gs)).vars pv)
  (hps:before=pa++pv) (hk:W.keptBut W' (· ∈ before)) (hfz:∀ a:Addr,a.block < W.heap.size→W'.frozen? a=W.frozen? a)
  (hok:∀ (j:Nat) (t:TypeId) (r:Value),f.resultTypes[j]?=some t→(v.resultList f.resultTypes.size)[j]?=some r→Value.okWide P W' .any 0 t r):
  s.post enc P f false fresh handsOn again W args v W':=by
 have hold:∀ p∈before,(fun b=>decide (b < W.heap.size)) p.block=true:=fun p hp=>by simpa using hW.lt p hp
 have hlt:=hW.lt
 refine ⟨ds,gs,before,[],pa,pv,hW,hres _ _ _,hargs _ hold,hvars _ hold,World.keptBut_mono (fun p hp=>⟨hp,?_⟩) hk,fun _=>?_⟩
 ·rw [hps,bl] at hp
  exact Or.inr hp
 ·obtain ⟨_,_,_,_,_,hz,hn⟩:=hW
  refine ⟨hok,_,_,([]++pa)++pv,⟨[]++pa,pv,trodAll_append (hargs _ (fun _ _=>rfl)) (hres _ _ _),hvars _ (fun _ _=>rfl),rfl,?_,?_⟩,?_⟩
  ·intro b off hp
   have hp':MemPlace.cell b off∈before:=by rw [hps]; simpa using hp
   rw [hfz ⟨b,off,none⟩ (hlt _ hp')]
   exact hz b off hp'
  ·intro ha
   cases ha
  ·intro p hp _
   rw [hps]
   simpa using hp

theorem GB {W:World} {r:Go.Reach} {b:Nat} {t:TypeId} {fs:Array Field} {v:Value} (ht:P.underlying t=some (.struct fs)) (h:Value.okWide P W r b t v):∃ cs,v=.agg cs:=by
 unfold Value.okWide at h
 rw [ht] at h
 obtain ⟨cs,rfl,_⟩:=h
 exact ⟨cs,rfl⟩

theorem JG {W:World} {r:Go.Reach} {b:Nat} {t e:TypeId} {v:Value} (ht:P.underlying t=some (.slice e)) (h:Value.okWide P W r b t v):∃ a n c,v=.slice a n c:=by
 unfold Value.okWide at h
 rw [ht] at h
 simp only at h
 unfold Cell.okWide at h
 rw [ht] at h
 unfold Cell.ok at h
 rw [ht] at h
 cases v <;> simp at h
 exact ⟨_,_,_,rfl⟩

theorem Tp {W:World} {r:Go.Reach} {b:Nat} {t:TypeId} {k:IntKind} {v:Value} (ht:P.underlying t=some (.int k)) (h:Value.okWide P W r b t v):∃ n,v=.int k n:=by
 unfold Value.okWide at h
 rw [ht] at h
 simp only at h
 unfold Cell.okWide at h
 rw [ht] at h
 unfold Cell.ok at h
 rw [ht] at h
 cases v <;> simp at h
 exact ⟨_,by rw [h.1]⟩

theorem CX {W:World} {r:Go.Reach} {b n:Nat} {t:TypeId} {fs:Array Field} {s:Sh} {v:Value} {d:DataW H} {ps:List MemPlace} (hty:DR P n t s=true) (hs:s.isAgg=true) (ht:P.underlying t=some (.struct fs)) (hok:Value.okWide P W r b t v)
  (h:DataW.Trod enc P W 0 (fun _=>true) true t v d ps):∃ x:Sem s,Rv W U0 fq (zy s x) v:=by
 refine qR hty h ⟨fun _=>hs,fun _=>GB ht hok⟩ (fun h'=>?_)
 rw [hs] at h'; cases h'
theorem Gp {W:World} {r:Go.Reach} {b n:Nat} {t e:TypeId} {s:Sh} {v:Value} {d:DataW H} {ps:List MemPlace} (hty:DR P n t (.sl s)=true) (ht:P.underlying t=some (.slice e)) (hok:Value.okWide P W r b t v)
  (h:DataW.Trod enc P W 0 (fun _=>true) true t v d ps):∃ x:List (Sem s),Rv W U0 fq (.sl s x) v:=by
 obtain ⟨a,m,c,rfl⟩:=JG ht hok
 exact qR (s:=.sl s) hty h ⟨(fun ⟨_,hh⟩=>(by cases hh)),(fun hh=>(by cases hh))⟩ (fun _=>rfl)
theorem MI {W:World} {r:Go.Reach} {b n:Nat} {t:TypeId} {k:IntKind} {v:Value} {d:DataW H} {ps:List MemPlace} (hty:DR P n t (.int k)=true) (ht:P.underlying t=some (.int k)) (hok:Value.okWide P W r b t v)
  (h:DataW.Trod enc P W 0 (fun _=>true) true t v d ps):∃ x:Int,Rv W U0 fq (.int k x) v:=by
 obtain ⟨m,rfl⟩:=Tp ht hok
 exact qR (s:=.int k) hty h ⟨(fun ⟨_,hh⟩=>(by cases hh)),(fun hh=>(by cases hh))⟩ (fun _=>rfl)

theorem Cq {gl:Nat→AV} {k:FuncId} {F:zB} (hF:kJ P gl k F) {W:World} {fv:List AV} {args:Array Value} (hgl:u9 gl W U0) (hr:ce W U0 fq fv args.toList) (hv:(F fv (fun _=>.dead) 0).val=some { val:=.bool true }) (hid:AV.idsL fv=[]):
  Calls P k args W fun e W'=>e=.returned (.bool true)∧iN W W'∧∀ b,b < W.heap.size→W'.heap[b]?=W.heap[b]?:=by
 have:=(hF.calls W U0 fq (fun _=>.dead) 0 fv args.toList _ [] hv hr (fun _ h=>h.elim) hgl ⟨by simp,by simp⟩ (by rw [hid]; simp) (by simp) (by simp)).1
 rw [show args.toList.toArray=args by simp] at this
 refine this.mono ?_
 rintro e w' ⟨v,U',ρ',rfl,hef⟩
 have hv':=hef.val
 cases hv'
 exact ⟨rfl,hef.ext,fun b hb=>hef.same b hb (by simp)⟩
end

theorem Nr {W:World} {n:Int} {v:Value} (h:Rv W U0 fq (.int .u8 n) v):0≤n∧n≤255:=by
 cases h with
 | int _ _ h=>exact h
theorem M7 (x:zu ([.sl zh,.sl (.sl zf),.int .u8].map some)) {W:World} {vs:List Value} (hr:ce W U0 fq (fv ([.sl zh,.sl (.sl zf),.int .u8].map some) x) vs):(F5w (fv ([.sl zh,.sl (.sl zf),.int .u8].map some) x) (fun _=>.dead) 0).val=some { val:=.bool true }:=by
 obtain ⟨db,rows,n,u⟩:=x
 have hr:ce W U0 fq [.sl zh db,.sl (.sl zf) rows,.int .u8 n] vs:=hr
 have hn:0≤n∧n≤255:=by
  have hl:=hr.len
  obtain ⟨v,hv⟩:∃ v,vs[2]?=some v:=⟨vs[2]'(by rw [← hl]; simp),zI _⟩
  exact Nr (hr.rv 2 _ v rfl hv)
 have h:(F5w [.sl zh db,.sl (.sl zf) rows,.int .u8 n] (fun _=>.dead) 0).val=(Tr.chk (Bt db rows n).isSome (Tr.ok ({ val:=.bool ((Bt db rows n).getD (bK [.bool])).1 }:dL))).val:=by kernel_rfl
 show (F5w [.sl zh db,.sl (.sl zf) rows,.int .u8 n] (fun _=>.dead) 0).val=_
 rw [h,MS db rows n hn.1 hn.2]
 rfl
open Go Go.Proofs Go.RowKit Go.ChangeShapes Go.WideShapes Go.ChangeAt Go.Proofs.YtiefilkilbdpgaaGreatDoor

theorem Bu {P:Program} {w:World}:∀ {l:List (String×DataW Unit)} {ps:List MemPlace},DataW.LaidVars P w l ps→∀ n d,(n,d)∈l→
  ∃ g t cs fuel p,P.globalNamed n=some g∧(P.globals[g]?).map (·.type)=some t∧w.var? P n=some cs∧DataW.trod (fun _=>()) P w 0 (fun _=>true) false fuel t cs.toList=some (d,p)
 | [],_,_,_,_,h=>by simp at h
 | (n0,d0)::r,ps,h,n,d,hm=>by
  obtain ⟨g,t,cs,fuel,p,q,h1,h2,h3,h4,h5,_⟩:=h
  rcases dV.1 hm with e | hm
  ·cases e
   exact ⟨g,t,cs,fuel,p,h1,h2,h3,h4⟩
  ·exact Bu h5 n d hm

theorem yq {P:Program} {l:List (String×DataW Unit)} {w:World} (hf:(l.filter fun x=>x.2.handleName?.isSome).isEmpty=true) (h:laidMetH P l w):laidMet P l w:=by
 unfold laidMetH at h
 split at h
 ·exact h
 ·rename_i a b hab
  rw [hab] at hf
  simp at hf

theorem lH {H:Type} {enc:TypeId×Value→H} {P:Program} {w:World} {base:Nat} {sp:Nat→Bool} {held:Bool} {fuel:Nat} {t:TypeId} (ht:P.underlying t=some .string) {cs:List Value} {b:List UInt8} {p:List MemPlace}
  (h:DataW.trod enc P w base sp held fuel t cs=some (.lit (.string b),p)):cs=[.string ⟨b.toArray⟩]:=by
 cases fuel with
 | zero=>simp [DataW.trod] at h
 | succ fuel=>
  unfold DataW.trod at h
  rw [ht] at h
  split at h
  all_goals first
   | (rename_i hu; cases hu; done)
   | (rename_i hu _; cases hu; done)
   | (simp at h; done)
   | skip
  rename_i s hu
  split at h
  ·simp only [ae,bm,DataW.lit.injEq,Lit.string.injEq] at h
   rw [← h.1]
  ·cases h

theorem KL {H:Type} {enc:TypeId×Value→H} {P:Program} {w:World} {base:Nat} {sp:Nat→Bool} {held:Bool} {fuel:Nat} {t:TypeId} (ht:P.underlying t=some (.int .u64)) {cs:List Value} {z:Int} {p:List MemPlace}
  (h:DataW.trod enc P w base sp held fuel t cs=some (.lit (.int .u64 z),p)):cs=[.int .u64 z]:=by
 cases fuel with
 | zero=>simp [DataW.trod] at h
 | succ fuel=>
  unfold DataW.trod at h
  rw [ht] at h
  split at h
  all_goals first
   | (rename_i hu; cases hu; done)
   | (rename_i hu _; cases hu; done)
   | (simp at h; done)
   | skip
  all_goals (try split at h)
  all_goals first
   | (cases h; done)
   | (simp at h; done)
   | skip
  all_goals simp_all

theorem wa {W:World} {l:List (String×DataW Unit)} (h:laidMet Tryz.prog l W) {name:String} {g:Nat} {t e:TypeId} {len:Nat} {ds:List (DataW Unit)} (hm:(name,DataW.agg ds)∈l)
  (hg:Tryz.prog.globalNamed name=some g) (ht:(Tryz.prog.globals[g]?).map (·.type)=some t) (hu:Tryz.prog.underlying t=some (.array len e)) (hc:Tryz.prog.cellsOf e=1):
  ∃ cs T fr,W.heap[g]?=some (.cells cs T fr)∧∀ (j:Nat) d,ds[j]?=some d→∃ fuel p,DataW.trod (fun _=>()) Tryz.prog W 0 (fun _=>true) false fuel e ((cs.toList.drop j).take 1)=some (d,p):=by
 obtain ⟨ps,hL,_,_⟩:=h
 obtain ⟨g',t',cs,fuel,p,h1,h2,h3,h4⟩:=Bu hL name _ hm
 rw [hg] at h1
 cases h1
 rw [ht] at h2
 cases h2
 have hvar:∃ T fr,W.heap[g]?=some (.cells cs T fr):=by
  unfold World.var? at h3
  rw [hg] at h3
  simp only [Option.bind_some] at h3
  split at h3
  ·rename_i c T fr hh
   cases h3
   exact ⟨T,fr,hh⟩
  ·cases h3
 obtain ⟨T,fr,hblk⟩:=hvar
 refine ⟨cs,T,fr,hblk,?_⟩
 cases fuel with
 | zero=>simp [DataW.trod] at h4
 | succ fuel=>
  unfold DataW.trod at h4
  rw [hu] at h4
  simp only at h4
  split at h4
  ·rw [c6] at h4
   obtain ⟨xs,hm',hx⟩:=h4
   simp only [bm,DataW.agg.injEq] at hx
   obtain ⟨hl,hg'⟩:=tO hm'
   intro j d hj
   rw [← hx.1,cL,c6] at hj
   obtain ⟨⟨d',p'⟩,hj,rfl⟩:=hj
   have hjl:j < xs.length:=(bD.1 hj).1
   have hr:(List.range len)[j]?=some j:=by
    rw [rS]
    rw [hl,List.length_range] at hjl
    exact hjl
   have:=hg' j j hr
   rw [hj,hc,Nat.mul_one] at this
   exact ⟨fuel,p',this⟩
  ·cases h4

theorem Fu {cs:Array Value} {j:Nat} {v:Value} (h:(cs.toList.drop j).take 1=[v]):cs[j]?=some v:=by
 have:=congrArg (·[0]?) h
 simp only [vZ,kU] at this
 simpa using this

theorem gl0 {W:World} {l:List (String×DataW Unit)} (h:laidMet Tryz.prog l W) (hm:("caddis/stmt.types",Rows.laid_caddis_stmt_types)∈l):Rv W U0 fq (.eptr [.str [73,78,84],.str [84,69,88,84],.str [66,79,79,76]] 0) (.pointer (some ⟨0,0,none⟩)):=by
 obtain ⟨cs,T,fr,hb,hd⟩:=wa h (g:=0) (t:=248) (e:=9) (len:=3) hm (by kernel_rfl) (by kernel_rfl) (by kernel_rfl) (by kernel_rfl)
 have hs9:Tryz.prog.underlying 9=some .string:=by kernel_rfl
 have hcell:∀ j,W.cell? ⟨0,j,none⟩=cs[j]?:=by
  intro j
  unfold World.cell?
  rw [hb]
  rfl
 obtain ⟨_,_,g0⟩:=hd 0 _ rfl
 obtain ⟨_,_,g1⟩:=hd 1 _ rfl
 obtain ⟨_,_,g2⟩:=hd 2 _ rfl
 have w0:=Fu (lH hs9 g0)
 have w1:=Fu (lH hs9 g1)
 have w2:=Fu (lH hs9 g2)
 refine .eptr [.str [73,78,84],.str [84,69,88,84],.str [66,79,79,76]] 0 0 0 (fun j=>match j with
  | 0=>.string ⟨#[73,78,84]⟩
  | 1=>.string ⟨#[84,69,88,84]⟩
  | _=>.string ⟨#[66,79,79,76]⟩) (xH (by rw [hcell]; exact w0)) (fun h=>h) ?_ ?_ ?_
 ·intro j hj
  match j,hj with
  | 0,_=>rw [hcell]; exact w0
  | 1,_=>rw [hcell]; exact w1
  | 2,_=>rw [hcell]; exact w2
 ·intro j hj
  match j,hj with
  | 0,_=>rfl
  | 1,_=>rfl
  | 2,_=>rfl
 ·intro j c hc
  match j,hc with
  | 0,hc=>simp at hc; subst hc; exact .str [73,78,84] (by simp [zD])
  | 1,hc=>simp at hc; subst hc; exact .str [84,69,88,84] (by simp [zD])
  | 2,hc=>simp at hc; subst hc; exact .str [66,79,79,76] (by simp [zD])
  | j+3,hc=>simp at hc

set_option maxRecDepth 100000 in
theorem gl2 {W:World} (h:W.ShapedOpen Tryz.prog):Rv W U0 fq .gint (.pointer (some ⟨2,0,none⟩)):=by
 have h0:((begin Tryz.prog (fun _ _=>0) default).world.heap[2]?).bind Obj.row?=some (#[.int .i64 0],3):=by kernel_rfl
 obtain ⟨cs,hh,hs,hr⟩:=h.1 2 _ _ (hM (by kernel_rfl)) h0
 obtain ⟨ts,hts,_,hall⟩:=hr (by kernel_rfl)
 have hc:Tryz.prog.cellTypes Tryz.prog.depth 3=some [3]:=by kernel_rfl
 rw [hc] at hts
 cases hts
 have h1:cs.size=1:=hs
 obtain ⟨u,hu,hok⟩:=hall 0 cs[0] (by simp)
 have:u=3:=by simpa using hu.symm
 subst this
 have hi:Tryz.prog.underlying 3=some (.int .i64):=by kernel_rfl
 unfold Cell.ok at hok
 rw [hi] at hok
 have hcs:cs = #[cs[0]]:=by
  apply Array.ext
  ·simp [h1]
  ·intro i h2 h3
   have:i=0:=by omega
   subst this
   rfl
 cases hv:cs[0] <;> rw [hv] at hok <;> simp at hok
 rename_i k n
 obtain ⟨rfl,hn⟩:=hok
 refine .gint n 2 3 (0,0) hn ?_ (fun h=>h)
 rw [hh,hcs,hv]

theorem gl5 {W:World} {l:List (String×DataW Unit)} (h:laidMet Tryz.prog l W) (hs:W.ShapedOpen Tryz.prog) (hm:("internal/strconv.uint64pow10",Rows.laid_internal_strconv_uint64pow10)∈l):Rv W U0 fq (.tab .u64 iT) (.pointer (some ⟨5,0,none⟩)):=by
 obtain ⟨cs,T,fr,hb,hd⟩:=wa h (g:=5) (t:=314) (e:=296) (len:=20) hm (by kernel_rfl) (by kernel_rfl) (by kernel_rfl) (by kernel_rfl)
 have hu:Tryz.prog.underlying 296=some (.int .u64):=by kernel_rfl
 have h0:((begin Tryz.prog (fun _ _=>0) default).world.heap[5]?).bind Obj.row?=some (Array.replicate 20 (.int .u64 0),314):=by kernel_rfl
 obtain ⟨cs',hh,hsz,_⟩:=hs.1 5 _ _ (hM (by kernel_rfl)) h0
 rw [hb] at hh
 have hcs:cs=cs':=by simp only [ae,Obj.cells.injEq] at hh; exact hh.1
 have hlen:cs.size=20:=by rw [hcs,hsz]; simp
 have key:cs=(iT.map fun z=>Value.int .u64 z).toArray:=by
  apply Array.ext
  ·rw [hlen]; rfl
  ·intro i h1 h2
   have hd':∀ (j:Nat) z,iT[j]?=some z→cs[j]?=some (.int .u64 z):=by
    intro j z hz
    obtain ⟨_,_,g⟩:=hd j (.lit (.int .u64 z)) (by
     have:(match (Rows.laid_internal_strconv_uint64pow10:DataW Unit) with | .agg l=>l | _=>[])=iT.map fun z=>DataW.lit (.int .u64 z):=by kernel_rfl
     have e2:(match (Rows.laid_internal_strconv_uint64pow10:DataW Unit) with | .agg l=>l | _=>[])[j]?=some (.lit (.int .u64 z)):=by
      rw [this,cL,hz]
      rfl
     exact e2)
    exact Fu (KL hu g)
   have hi:i < iT.length:=by simpa using h2
   have:=hd' i iT[i] (zI hi)
   rw [gB h1,ae] at this
   rw [this,List.getElem_toArray,List.getElem_map]
 exact .tab .u64 iT 5 T fr (by rw [hb,key]) (fun h=>h)


theorem Jk:laidOutB Tryz.prog=true:=by kernel_rfl
def pq (P:Program) (t:TypeId):Bool:=match P.underlying t with
 | some (.struct _)=>true
 | _=>false
theorem ym {P:Program} {t:TypeId} (h:pq P t=true):∃ fs,P.underlying t=some (.struct fs):=by
 unfold pq at h
 split at h
 ·exact ⟨_,‹_›⟩
 ·cases h
theorem un4:Tryz.prog.underlying 4=some .bool:=by kernel_rfl

theorem zaN {H:Type} {enc:TypeId×Value→H} {W W':World} (hsame:∀ b,b < W.heap.size→W'.heap[b]?=W.heap[b]?) {t:TypeId} {v:Value} {d:DataW H} {ps:List MemPlace} (hr:Tryz.prog.readableRec t=true) (hrow:t < Tryz.prog.types.size)
  (h:DataW.Trod enc Tryz.prog W 0 (fun _=>true) true t v d ps) (hlt:∀ p∈ps,p.block < W.heap.size) {sp:Nat→Bool} (hs:∀ p∈ps,sp p.block=true):DataW.Trod enc Tryz.prog W' 0 sp true t v d ps:=
 WideElems.Trod_stays Jk hr hrow h (fun p hp=>by
  have h1:=hsame p.block (hlt p hp)
  cases p with
  | cell b off=>exact World.cell?_of_block h1
  | map b=>exact h1) hs

theorem MF {W:World} {l:List (String×DataW Unit)} (hL:laidMet Tryz.prog l W) (hs:W.ShapedOpen Tryz.prog) (h0:("caddis/stmt.types",Rows.laid_caddis_stmt_types)∈l) (h5:("internal/strconv.uint64pow10",Rows.laid_internal_strconv_uint64pow10)∈l):u9 Gi W U0:=by
 intro g
 match g with
 | 0=>exact gl0 hL h0
 | 1=>exact .any _
 | 2=>exact gl2 hs
 | 3=>exact .any _
 | 4=>exact .any _
 | 5=>exact gl5 hL hs h5
 | g+6=>exact .any _

theorem GA {P:Program} {W:World} {r:Go.Reach} {b:Nat} {t:TypeId} {v:Value} (ht:P.underlying t=some .string) (h:Value.okWide P W r b t v):∃ n,v=.string n:=by
 unfold Value.okWide at h
 rw [ht] at h
 simp only at h
 unfold Cell.okWide at h
 rw [ht] at h
 unfold Cell.ok at h
 rw [ht] at h
 cases v <;> simp at h
 exact ⟨_,rfl⟩

structure qL (t:TypeId) (s:Sh):Prop where
 got:∀ {H:Type} {enc:TypeId×Value→H} {W:World} {r:Go.Reach} {b:Nat} {v:Value} {d:DataW H} {ps:List MemPlace},Value.okWide Tryz.prog W r b t v→DataW.Trod enc Tryz.prog W 0 (fun _=>true) true t v d ps→∃ x:Sem s,Rv W U0 fq (zy s x) v
 rd:Tryz.prog.readableRec t=true
 row:t < Tryz.prog.types.size

set_option maxRecDepth 100000 in
theorem qL.struct {t:TypeId} {s:Sh} {n:Nat} (hty:DR Tryz.prog n t s=true) (hs:s.isAgg=true) (ht:pq Tryz.prog t=true) (rd:Tryz.prog.readableRec t=true) (row:t < Tryz.prog.types.size):qL t s where
 got:=fun hok h=>by
  obtain ⟨fs,hu⟩:=ym ht
  exact CX hty hs hu hok h
 rd:=rd
 row:=row
set_option maxRecDepth 100000 in
theorem qL.slice {t e:TypeId} {s:Sh} {n:Nat} (hty:DR Tryz.prog n t (.sl s)=true) (ht:Tryz.prog.underlying t=some (.slice e)) (rd:Tryz.prog.readableRec t=true) (row:t < Tryz.prog.types.size):qL t (.sl s) where
 got:=fun hok h=>Gp hty ht hok h
 rd:=rd
 row:=row
set_option maxRecDepth 100000 in
theorem qL.int {t:TypeId} {k:IntKind} {n:Nat} (hty:DR Tryz.prog n t (.int k)=true) (ht:Tryz.prog.underlying t=some (.int k)) (rd:Tryz.prog.readableRec t=true) (row:t < Tryz.prog.types.size):qL t (.int k) where
 got:=fun hok h=>MI hty ht hok h
 rd:=rd
 row:=row
set_option maxRecDepth 100000 in
theorem qL.str {t:TypeId} {n:Nat} (hty:DR Tryz.prog n t .str=true) (ht:Tryz.prog.underlying t=some .string) (rd:Tryz.prog.readableRec t=true) (row:t < Tryz.prog.types.size):qL t .str where
 got:=fun hok h=>by
  obtain ⟨m,rfl⟩:=GA ht hok
  exact qR (s:=.str) hty h ⟨(fun ⟨_,hh⟩=>(by cases hh)),(fun hh=>(by cases hh))⟩ (fun _=>rfl)
 rd:=rd
 row:=row

inductive Ck:List TypeId→List Sh→Prop
 | nil:Ck [] []
 | cons {t:TypeId} {s:Sh} {ts:List TypeId} {ss:List Sh} (h:qL t s) (r:Ck ts ss):Ck (t::ts) (s::ss)

set_option maxRecDepth 100000 in
theorem Ck.got {ts:List TypeId} {ss:List Sh} (h:Ck ts ss):∀ {H:Type} {enc:TypeId×Value→H} {W:World} {base:Nat} {vs:List Value} {ds:List (DataW H)} {ps:List MemPlace},
  (∀ (j:Nat) t v,ts[j]?=some t→vs[j]?=some v→Value.okWide Tryz.prog W .any base t v)→DataW.TrodAll enc Tryz.prog W 0 (fun _=>true) true ts vs ds ps→
  ds.length=ts.length∧(∃ x:zu (ss.map some),ce W U0 fq (fv (ss.map some) x) vs)∧
  ∀ W',(∀ b,b < W.heap.size→W'.heap[b]?=W.heap[b]?)→(∀ p∈ps,p.block < W.heap.size)→∀ sp:Nat→Bool,(∀ p∈ps,sp p.block=true)→DataW.TrodAll enc Tryz.prog W' 0 sp true ts vs ds ps:=by
 induction h with
 | nil=>
  intro H enc W base vs ds ps _ hT
  obtain ⟨rfl,rfl,rfl⟩:=trodAll_nil hT
  exact ⟨rfl,⟨(),rfl,fun j c v hc=>by
   have h0:([]:List AV)[j]?=some c:=hc
   simp at h0⟩,fun _ _ _ _ _=>trodAll_mk0⟩
 | @cons t s ts ss h r IH=>
  intro H enc W base vs ds ps hok hT
  obtain ⟨v,vs,d,ds,p,q,rfl,rfl,rfl,hd,hrest⟩:=trodAll_cons hT
  obtain ⟨x,hx⟩:=h.got (hok 0 t v rfl rfl) hd
  obtain ⟨hl,⟨y,hy⟩,hk⟩:=IH (fun j t v ht hv=>hok (j+1) t v ht hv) hrest
  refine ⟨by simp [hl],⟨(x,y),by show (zy s x::fv (ss.map some) y).length=_; simp [hy.len],fun j c v' hc hv=>?_⟩,fun W' hsame hlt sp hsp=>?_⟩
  ·have hc:(zy s x::fv (ss.map some) y)[j]?=some c:=hc
   cases j with
   | zero=>
    simp only [List.getElem?_cons_zero,ae] at hc hv
    subst hc
    subst hv
    exact hx
   | succ j=>exact hy.rv j c v' hc hv
  ·exact trodAll_cons_mk (zaN hsame h.rd h.row hd (fun p hp=>hlt p (by simp [hp])) (fun p hp=>hsp p (by simp [hp]))) (hk W' hsame (fun p hp=>hlt p (by simp [hp])) sp (fun p hp=>hsp p (by simp [hp])))

theorem D7:∀ (ss:List Sh) (x:zu (ss.map some)),AV.idsL (fv (ss.map some) x)=[]
 | [],_=>rfl
 | s::ss,x=>by
  show (zy s x.1).ids++AV.idsL (fv (ss.map some) x.2)=[]
  rw [D7 ss x.2,pY]
  unfold zy
  have hL:∀ l:List AV,(∀ c∈l,c.ids=[])→AV.idsL l=[]:=by
   intro l
   induction l with
   | nil=>intro _; rfl
   | cons c l ih=>intro h; simp only [AV.idsL,h c (by simp),ih fun c hc=>h c (by simp [hc]),pY]
  have hE:∀ c∈zl s x.1,c.ids=[]:=fun c hc=>by
   obtain ⟨j,hj,rfl⟩:=List.getElem_of_mem hc
   exact iD s x.1 j _ (zI hj)
  cases s.isAgg with
  | true=>exact hL _ hE
  | false=>
   cases hh:zl s x.1 with
   | nil=>rfl
   | cons c l=>exact hE c (by rw [hh]; simp)

set_option maxRecDepth 100000 in
theorem FQ {k:FuncId} {f:Func} {s:ChangeSpec} {F:zB} {ts:List TypeId} {ss:List Sh} (hF:kJ Tryz.prog Gi k F) (hpar:f.params=ts.toArray) (hp:Ck ts ss) (hrt:f.resultTypes = #[4]) (hvars:s.vars=[])
  (hfn:∀ (H:Type) (ds:List (DataW H)),ds.length=ts.length→s.fn H ds={ results:=[.lit (.bool true)],args:=ds })
  {H:Type} {enc:TypeId×Value→H} {W:World} {base:Nat} {args:Array Value} {ds gs:List (DataW H)} {before:List MemPlace}
  (hv:∀ x:zu (ss.map some),ce W U0 fq (fv (ss.map some) x) args.toList→(F (fv (ss.map some) x) (fun _=>.dead) 0).val=some { val:=.bool true })
  (hval:∀ (j:Nat) t v,f.params[j]?=some t→args[j]?=some v→Value.okWide Tryz.prog W .any base t v)
  (hW:DataW.Whole enc Tryz.prog f.params.toList s.vars false W args.toList ds gs before) (hgl:u9 Gi W U0):
  Calls Tryz.prog k args W fun e W'=>∃ v,e=.returned v∧s.post enc Tryz.prog f false true false false W args v W':=by
 have hW':=hW
 obtain ⟨p,q,hA0,hV,rfl,hfz,hnd⟩:=hW
 have hA:DataW.TrodAll enc Tryz.prog W 0 (fun _=>true) true f.params.toList args.toList ds p:=hA0
 rw [hpar] at hA
 rw [hvars] at hV
 obtain ⟨rfl,rfl⟩:=trodVars_none hV
 have hlt:=hW'.lt
 obtain ⟨hl,⟨x,hx⟩,hk⟩:=hp.got (base:=base) (fun j t v ht hv=>hval j t v (by rw [hpar]; simpa using ht) (by simpa using hv)) hA
 have hc:=Cq hF (args:=args) hgl hx (hv x hx) (D7 ss x)
 refine hc.mono fun e' W' ⟨he,hext,hsame⟩=>?_
 subst he
 have hf2:s.fn H (ds++[])={ results:=[.lit (.bool true)],args:=ds }:=by rw [pY]; exact hfn H ds hl
 refine ⟨_,rfl,BD (pa:=p) (pv:=[]) hW' (fun _ _ _=>?_) (fun sp hsp=>?_) (fun _ _=>?_) (by simp) (yn hext.os hext.out hsame _) hext.fr (ok_one hrt rfl (okWide_bool_mk un4 _))⟩
 ·rw [hf2,hrt]
  exact trodAll_cons_mk (shut_bool un4 _) trodAll_mk0
 ·rw [hf2,hpar]
  exact hk W' hsame (fun p hp=>hlt p (by simpa using hp)) sp (fun p hp=>hsp p (by simpa using hp))
 ·rw [hf2,hvars]
  rfl
end Cad
