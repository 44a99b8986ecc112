/- What abstract values say of the model's values, and what sta. -/
import Derived.Test.YtgcekmmgphhofaaGreatDoorR02
import Derived.WalkKit
import Derived.Deep.AppendSrc
namespace Cad
open Go
open List renaming length->Io,length->M
open Bool renaming true->Q4,true->Z
open Option renaming none->Q2,some->Q1,some->Y
open Tr (chk br)
open AV (nils agg tup ptr kb str sl)
open Cad renaming AV->R,Sem->N,ow->S,Tr->K,ai->I
def bq(k:IntKind)(n:Int):Prop:=k.min<=n/\n<=k.max
def af:Nat:=9223372036854775807
theorem um{p:Prop}(h:p:=by unfold af;omega):p:=h
inductive Rv (w:World) (U:Nat->Prop) (ρ:Nat->Option Value):AV->Value->Prop
 |any (v:Value):Rv w U ρ .any v
 |kb (b:Bool):Rv w U ρ (.kb b) (.bool b)
 |bool (b:Bool):Rv w U ρ (.bool b) (.bool b)
 |int (k:IntKind) (n:Int) (h:bq k n):Rv w U ρ (.int k n) (.int k n)
 |str (s:zD) (h:Io s<=af):Rv w U ρ (.str s) (.string ⟨s.toArray⟩)
 |nils (a:Option Addr):Rv w U ρ .nils (.slice a 0 0)
 |sl0 (e:Sh) (a:Option Addr) (c:Nat):Rv w U ρ (.sl e []) (.slice a 0 c)
 | sl (e:Sh) (l:List (Sem e)) (b o c:Nat) (vals:Nat→Nat→Value) (hc:Io l≤c) (hm:Io l≤af) (hb:b < w.heap.size) (hU:¬ U b)
   (hcell:∀i j,i<Io l->j<e.size->w.cell? ⟨b,o+i*e.size+j,Q2⟩=Q1 (vals i j))
   (hr:∀i(hi:i<Io l)(j:Nat)(c:AV),(zq e l[i])[j]?=Q1 c->Rv w U ρ c (vals i j)):
   Rv w U ρ (.sl e l) (.slice (Q1 ⟨b,o,Q2⟩) (Io l) c)
 |vec (id:Nat) (v:Value) (h:ρ id=Q1 v) (h1:v.oneCell'=Q4):Rv w U ρ (.vec id) v
 |ptr (id off b:Nat) (h:ρ id=Q1 (.pointer (Q1 ⟨b,0,Q2⟩))):Rv w U ρ (.ptr id off) (.pointer (Q1 ⟨b,off,Q2⟩))
 |vptr (id sz i off b n c:Nat) (h:ρ id=Q1 (.slice (Q1 ⟨b,0,Q2⟩) n c)):Rv w U ρ (.vptr id sz i off) (.pointer (Q1 ⟨b,i*sz+off,Q2⟩))
 | eptr (cs:List AV) (off b o:Nat) (vals:Nat→Value) (hb:b < w.heap.size) (hU:¬ U b)
   (hcell:∀j,j<Io cs->w.cell? ⟨b,o+j,Q2⟩=Q1 (vals j)) (h1:∀j,j<Io cs->(vals j).oneCell'=Q4)
   (hr:∀(j:Nat)(c:AV),cs[j]?=Q1 c->Rv w U ρ c (vals j)):Rv w U ρ (.eptr cs off) (.pointer (Q1 ⟨b,o+off,Q2⟩))
 |nilp:Rv w U ρ .nilp (.pointer Q2)
 | agg (cs:List AV) (vs:List Value) (hl:Io cs=Io vs) (h1:∀ v∈vs,v.oneCell'=Q4)
   (hr:∀(j:Nat)(c:AV)(v:Value),cs[j]?=Q1 c->vs[j]?=Q1 v->Rv w U ρ c v):Rv w U ρ (.agg cs) (.agg vs.toArray)
 | tup (cs:List AV) (vs:List Value) (hl:Io cs=Io vs)
   (hr:∀(j:Nat)(c:AV)(v:Value),cs[j]?=Q1 c->vs[j]?=Q1 v->Rv w U ρ c v):Rv w U ρ (.tup cs) (.tuple vs.toArray)
 | clo (fn:Fn) (fs cs:List AV) (vf vc:List Value) (hf:Io fs=Io vf) (hc:Io cs=Io vc)
   (hrf:∀(j:Nat)(c:AV)(v:Value),fs[j]?=Q1 c->vf[j]?=Q1 v->Rv w U ρ c v) (hrc:∀(j:Nat)(c:AV)(v:Value),cs[j]?=Q1 c->vc[j]?=Q1 v->Rv w U ρ c v):
   Rv w U ρ (.clo fn fs cs) (.func fn vf.toArray vc.toArray)
 |nilf:Rv w U ρ .nilf .nilFunc
 |mp (id:Nat) (v:Value) (h:ρ id=Q1 v) (h1:v.oneCell'=Q4):Rv w U ρ (.mp id) v
 |ifcN:Rv w U ρ (.ifc Q4) .nilIface
 |ifcS (t:TypeId) (v:Value):Rv w U ρ (.ifc false) (.iface t v)
 |tab (k:IntKind) (zs:List Int) (b:Nat) (T:TypeId) (fr:Nat×Nat) (hb:w.heap[b]?=Q1 (.cells (zs.map λz=>Value.int k z).toArray T fr)) (hU:¬U b):Rv w U ρ (.tab k zs) (.pointer (Q1 ⟨b,0,Q2⟩))
 |gint (m:Int) (b:Nat) (T:TypeId) (fr:Nat×Nat) (hm:bq .i64 m) (hb:w.heap[b]?=Q1 (.cells #[Value.int .i64 m] T fr)) (hU:¬U b):Rv w U ρ .gint (.pointer (Q1 ⟨b,0,Q2⟩))
structure cu (w:World) (U:Nat->Prop) (ρ:Nat->Option Value) (cs:List R) (vs:List Value):Prop where
 len:M cs=M vs
 rv:∀(j:Nat)(c:R)(v:Value),cs[j]?=Y c->vs[j]?=Y v->Rv w U ρ c v
variable {w:World}{v:Value}
theorem gE{n o:Nat}(h:w.cell? ⟨n,o,Q2⟩=Y v):n<w.heap.size:=by unfold World.cell? at h;grind
variable {w':World}{U x:Nat->Prop}{ρ ρ':Nat->Option Value}{c:R}
theorem Rv.mono(hs:w.heap.size<=w'.heap.size)
  (hk:∀b,b<w.heap.size->¬U b->w'.heap[b]?=w.heap[b]?) (G:∀b,b<w.heap.size->x b->U b) (H:∀id v,ρ id=Y v->ρ' id=Y v)
    (h:Rv w U ρ c v):Rv w' x ρ' c v:=by
 have q:∀b o v,¬U b->w.cell? ⟨b,o,Q2⟩=Y v->w'.cell? ⟨b,o,Q2⟩=Y v:=by
  intro b o v g F;rw[World.cell?_of_block (hk b (gE F) g)];exact F
 induction h with
 |any v=>exact .any v
 |kb b=>exact .kb b
 |bool b=>exact .bool b
 |int k n h=>exact .int k n h
 |str s h=>exact .str s h
 |nils a=>exact .nils a
 |sl0 e a c=>exact .sl0 e a c
 | sl e l b o c z F hm g p D hr E=>
  exact .sl e l b o c z F hm (cM g hs) (λh=>p (G b g h)) (λi j hi hj=>q _ _ _ p (D i j hi hj)) E
 |vec id v h C=>exact .vec id v (H _ _ h) C
 |ptr id y b h=>exact .ptr id y b (H _ _ h)
 |vptr id sz i y b n c h=>exact .vptr id sz i y b n c (H _ _ h)
 | eptr A y b o z g p D C hr E=>
  exact .eptr A y b o z (cM g hs) (λh=>p (G b g h)) (λj hj=>q _ _ _ p (D j hj)) C E
 |nilp=>exact .nilp
 |agg A vs hl C hr E=>exact .agg A vs hl C E
 |tup A vs hl hr E=>exact .tup A vs hl E
 |clo fn fs A vf vc hf F h4 h3 h2 h0=>exact .clo fn fs A vf vc hf F h2 h0
 |nilf=>exact .nilf
 |mp id v h C=>exact .mp id v (H _ _ h) C
 |ifcN=>exact .ifcN
 |ifcS t v=>exact .ifcS t v
 | tab k zs b d fr g p=>
  have u:b<w.heap.size:=(dq.1 g).1;exact .tab k zs b d fr (by rw[hk b u p];exact g) (λh=>p (G b u h))
 | gint m b d fr hm g p=>
  have u:b<w.heap.size:=(dq.1 g).1;exact .gint m b d fr hm (by rw[hk b u p];exact g) (λh=>p (G b u h))
theorem cu.mono(e:w.heap.size<=w'.heap.size)
  (d:∀b,b<w.heap.size->¬U b->w'.heap[b]?=w.heap[b]?) (g:∀b,b<w.heap.size->x b->U b) (k:∀id v,ρ id=Y v->ρ' id=Y v)
  {cs:List R} {vs:List Value} (h:cu w U ρ cs vs):cu w' x ρ' cs vs:=
 ⟨h.len,λj c v a i=>(h.rv j c v a i).mono e d g k⟩
variable {U':Nat->Prop}
theorem Rv.weak(x:∀b,U' b->U b)(h:Rv w U ρ c v):Rv w U' ρ c v:=
 h.mono (zK _) (λ_ _ _=>rfl) (λb _=>x b) (λ_ _ h=>h)
def AO.owns:AO->Bool
 |.box _|.vec _ _|.fmap _|.vmap _ _|.gmap _ _=>Z
 |_=>false
def bz:Value->Option Nat
 |.pointer (Y a)=>Y a.block
 |.slice (Y a) _ c=>if c=0 then Q2 else Y a.block
 |.map (Y r)=>Y r
 |_=>Q2
def zY(ρ:Nat->Option Value)(id:Nat)(o:AO)(b:Nat):Prop:=o.owns=Z/\∃v,ρ id=Y v/\bz v=Y b
def cd(k:Int×Int×zD):Value:=.agg #[.int .i64 k.1,.int .i64 k.2.1,.string ⟨k.q.toArray⟩]
def ez(k:Int×Int×zD):Prop:=bq .i64 k.1/\bq .i64 k.2.1/\M k.q<=af
def lw(h:Array MapEntry)(c:Nat):Prop:=c=h.size/\∀(i:Nat)(e:MapEntry),h[i]?=Y e->e.born=i
def sY(u:Bool)(n:Int):Value:=bif u then .agg #[]else .int .i64 n
def aW(w:World)(U:Nat->Prop)(ρ:Nat->Option Value)(id:Nat):AO->Prop
 |.dead=>True
 |.box n=>∃b h vals,ρ id=Y (.pointer (Y ⟨b,0,Q2⟩))/\U b/\w.heap[b]?=Y (.cells vals h (0,0))/\cu w U ρ n vals.toList/\(∀v∈vals.toList,v.oneCell'=Z)/\(ff n=Z->h=xZ)
 | .vec e l=>∃ a c,ρ id=Q1 (.slice a (Io l) c)∧Io l≤af∧((l=[]∧c=0)∨∃ b h k,a=Q1 ⟨b,0,Q2⟩∧0 < c∧U b∧w.heap[b]?=Q1 (.cells k h (0,0))∧
   k.size=c*e.size/\M l<=c/\(∀i(o:i<M l)(j:Nat)(c:R),(zq e l[i])[j]?=Y c->∃v,k[i*e.size+j]?=Y v/\Rv w U ρ c v)/\(e=.int .u8->h=Yl))
 |.frz e l=>∃v,ρ id=Y v/\Rv w U ρ (.sl e l) v
 | .fmap g=>∃ r x d,ρ id=Q1 (.map (Q1 r))∧U r∧w.heap[r]?=Q1 (.map x d)∧cu w U ρ (g.map (·.2)) (x.toList.map (·.val))∧
   x.toList.map (·.key)=g.map λp=>Value.string ⟨p.1.toArray⟩
 | .vmap u g=>∃ r x d,ρ id=Q1 (.map (Q1 r))∧U r∧w.heap[r]?=Q1 (.map x d)∧(x.toList.map fun e=>(e.key,e.val))=(g.map fun p=>(cd p.1,sY u p.2))∧
   (∀p∈g,bq .i64 p.2/\ez p.1)/\lw x d
 | .gmap e g=>∃ (r:Nat) (x:Array MapEntry) (d:Nat) (m:List ((Int×Int×zD)×Value)),ρ id=Q1 (.map (Q1 r))∧U r∧w.heap[r]?=Q1 (.map x d)∧cu w U ρ (g.map fun p=>sl e p.2) (m.map (·.2))∧
   (x.toList.map λe=>(e.key,e.val))=(m.map λp=>(cd p.1,p.2))/\m.map (·.1)=g.map (·.1)/\∀p∈m,ez p.1
variable {b:List R}
theorem vV(h:ff b=Z):∃a x,b=[a,x]/\ff [a,.any]=Z:=by
 match b,h with
 |[],h=>simp[ff]at h
 |[_],h=>simp[ff]at h
 |[a,x],h=>refine⟨a,x,rfl,?_⟩;cases a<;>first|rfl|simp[ff]at h
 |_::_::_::_,h=>simp[ff]at h
theorem Ka{l:R}(h:ff [c,.any]=Z):ff [c,l]=Z:=by cases c<;>first|rfl|simp[ff]at h
theorem Fe{n:Nat}(i:ff [c,.any]=false)(h:ff (b.set n c)=Z):ff b=Z:=by
 have⟨a,x,e,g⟩:=vV h
 match b,n,e with
 |[p,q],0,e=>simp at e;rw[<-e.1]at g;rw[i]at g;cases g
 |[p,q],1,e=>simp at e;rw[<-e.1]at g;exact Ka g
 |[p,q],d+2,e=>simp at e;rw[<-e.1]at g;exact Ka g
 |[],_,e=>simp at e
 |[_],0,e=>simp at e
 |[_],d+1,e=>simp at e
 |_::_::_::_,0,e=>simp at e
 |_::_::_::_,1,e=>simp at e
 |_::_::_::_,d+2,e=>simp at e
theorem ph:∀(s:Sh)(x:N s)(c:R),c∈zq s x->ff [c,.any]=false
 |.unit,_,c,h=>by simp[zq]at h
 |.bool,_,c,h=>by simp[zq]at h;subst h;rfl
 |.int _,_,c,h=>by simp[zq]at h;subst h;rfl
 |.str,_,c,h=>by simp[zq]at h;subst h;rfl
 |.sl _,_,c,h=>by simp[zq]at h;subst h;rfl
 | .pr a b,x,c,h=>by
  simp only[zq,bX]at h;exact h.elim (ph a _ c) (ph b _ c)
 | .expr,_,c,h=>by
  simp only[zq,bD,List.not_mem_nil,or_false]at h;rcases h with rfl|rfl|rfl|rfl|rfl|rfl<;>rfl
theorem aW.mono(A:w.heap.size<=w'.heap.size)
  (z:∀b,b<w.heap.size->¬U b->w'.heap[b]?=w.heap[b]?) (C:∀b,b<w.heap.size->x b->U b) (q:∀id v,ρ id=Y v->ρ' id=Y v)
  {id:Nat} {m:AO} (h:aW w U ρ id m) (n:∀b,zY ρ id m b->w'.heap[b]?=w.heap[b]?/\x b):aW w' x ρ' id m:=by
 cases m with
 |dead=>trivial
 | box cs=>
  have⟨b,d,D,o,s,p,t,y⟩:=h;have:=n b ⟨rfl,_,o,rfl⟩;exact⟨b,d,D,q _ _ o,this.2,by rw[this.1];exact p,t.mono A z C q,y⟩
 | vec e l=>
  have⟨a,c,o,s,p⟩:=h;refine⟨a,c,q _ _ o,s,?_⟩;rcases p with p|⟨b,d,E,rfl,hc,hU,hb,h0,G,hr,F⟩
  .exact .inl p
  .have:=n b ⟨rfl,_,o,by simp[bz];omega⟩;refine .inr ⟨b,d,E,rfl,hc,this.2,by rw[this.1];exact hb,h0,G,λi hi j c hx=>?_,F⟩;have⟨v,hv,H⟩:=hr i hi j c hx;exact⟨v,hv,H.mono A z C q⟩
 | frz e l=>
  have⟨v,o,s⟩:=h;exact⟨v,q _ _ o,s.mono A z C q⟩
 | fmap es=>
  have⟨r,k,g,o,s,p,t,y⟩:=h;have:=n r ⟨rfl,_,o,rfl⟩;exact⟨r,k,g,q _ _ o,this.2,by rw[this.1];exact p,t.mono A z C q,y⟩
 | vmap u es=>
  have⟨r,k,g,o,s,p,t,y⟩:=h;have:=n r ⟨rfl,_,o,rfl⟩;exact⟨r,k,g,q _ _ o,this.2,by rw[this.1];exact p,t,y⟩
 | gmap e es=>
  have⟨r,k,g,gs,o,s,p,t,y⟩:=h;have:=n r ⟨rfl,_,o,rfl⟩;exact⟨r,k,g,gs,q _ _ o,this.2,by rw[this.1];exact p,t.mono A z C q,y⟩
theorem aW.inU{id:Nat}{m:AO}(h:aW w U ρ id m){o:Nat}(C:zY ρ id m o):U o/\o<w.heap.size:=by
 have⟨t,v,g,b⟩:=C;cases m with
 |dead=>simp[AO.owns]at t
 |frz e l=>simp[AO.owns]at t
 | box E=>
  have⟨A,x,y,i,n,k,p,q⟩:=h;rw[i]at g;cases g;simp[bz]at b;grind
 | vec e l=>
  have⟨a,c,i,n,k⟩:=h;rw[i]at g;cases g;rcases k with⟨_,rfl⟩|⟨A,x,z,rfl,H,G,D,_⟩
  .cases a<;>simp[bz]at b
  .simp[bz]at b;grind
 | fmap s=>
  have⟨r,j,d,i,n,k,p,q⟩:=h;rw[i]at g;cases g;simp[bz]at b;grind
 | vmap u s=>
  have⟨r,j,d,i,n,k,p,q⟩:=h;rw[i]at g;cases g;simp[bz]at b;grind
 | gmap e s=>
  have⟨r,j,d,F,i,n,k,p,q⟩:=h;rw[i]at g;cases g;simp[bz]at b;grind
theorem zS:∀(s:Sh)(x:N s),(zq s x).length=s.size
 |.unit,_=>rfl
 |.bool,_=>rfl
 |.int _,_=>rfl
 |.str,_=>rfl
 |.sl _,_=>rfl
 |.pr a b,x=>by simp[zq,Sh.size,zS a,zS b]
 |.expr,_=>rfl
variable {hp:Nat->AO}
theorem sF{e:Sh}{l:List (N e)}
  (h:oX hp e c=Y l) (C:Rv w U ρ c v) (F:∀b,U' b->U b)
  (z:∀id∈cJ c,aW w U ρ id (hp id)) (A:∀id∈cJ c,∀b,zY ρ id (hp id) b->¬U' b):Rv w U' ρ (.sl e l) v:=by
 cases c<;>simp[oX]at h
 case nils=>
  subst h;cases C;exact .sl0 e _ _
 case sl g p=>
  obtain⟨rfl,h⟩:=h;subst h;exact C.weak F
 case vec id=>
  cases C with
  |vec _ _ G _=>
  have q:=z id (by simp[cJ]);have h2:=A id (by simp[cJ]);cases k:hp id with
  |dead=>simp[k]at h
  |box cs=>simp[k]at h
  |fmap es=>simp[k]at h
  |vmap u es=>simp[k]at h
  |gmap e es=>simp[k]at h
  | frz g p=>
   simp[k]at h;obtain⟨rfl,h⟩:=h;subst h;rw[k]at q;have⟨v',d,m⟩:=q;rw[G]at d;cases d;exact m.weak F
  | vec g p=>
   simp[k]at h;obtain⟨rfl,h⟩:=h;subst h;rw[k]at q h2;have⟨a,c,d,hm,h3⟩:=q;rw[G]at d;cases d;rcases h3 with⟨hl,hc⟩|⟨b,x,n,rfl,hc,hU,hb,E,s,D,h0⟩
   .show Rv w U' ρ (.sl g p) _;subst hl;exact .sl0 g _ _
   .show Rv w U' ρ (.sl g p) _;have y:¬U' b:=h2 b ⟨rfl,_,G,by simp[bz];omega⟩;have o:=(dq.1 hb).1;refine .sl g p b 0 c (λi j=>(n[i*g.size+j]?).getD undef) s hm o y (λi j hi hj=>?_) (λi hi j cc hx=>?_)
    .have t:i*g.size+j<n.size:=by
      rw[E];have:(i+1)*g.size<=c*g.size:=gu _ S;rw[jG]at this;omega
     simp[World.cell?,hb,oP t]
    .have⟨v,H,m⟩:=D i hi j cc hx;simp[H];exact m.weak F
theorem nG(q:∀b,U' b->U b):
  ∀(s:Sh)(n:List R)(x:N s)(r:List R)(d:Nat->Value),cW hp s n=Y (x,r)->
   (∀(j:Nat)(c:R),n[j]?=Y c->Rv w U ρ c (d j))->(∀id∈n.flatMap cJ,aW w U ρ id (hp id)/\∀b,zY ρ id (hp id) b->¬U' b)->
   n.length=s.size+M r/\r=n.drop s.size/\∀(j:Nat)(c:R),(zq s x)[j]?=Y c->Rv w U' ρ c (d j):=by
 intro s
 induction s with
 | unit=>
  intro n x r d h p m;simp[cW]at h;subst h;refine⟨by simp[Sh.size],by simp[Sh.size],by simp[zq]⟩
 | bool=>
  intro n x r d h p m;cases n with
  |nil=>simp[cW]at h
  | cons c n=>
   cases c<;>simp[cW]at h<;>(obtain⟨rfl,rfl⟩:=h)<;>refine⟨by simp[Sh.size];omega,by simp[Sh.size],?_⟩
   all_goals
    intro j c g;cases j with
    |succ j=>simp[zq]at g
    | zero=>
     simp[zq]at g;subst g;have:=p 0 _ rfl;generalize d 0=v at this;cases this;exact .bool _
 | int k=>
  intro n x r d h p m;cases n with
  |nil=>simp[cW]at h
  | cons c n=>
   cases c<;>simp[cW]at h
   obtain⟨rfl,rfl,rfl⟩:=h;refine⟨by simp[Sh.size];omega,by simp[Sh.size],?_⟩;intro j c g;cases j with
   |succ j=>simp[zq]at g
   | zero=>
    simp[zq]at g;subst g;exact(p 0 _ rfl).weak q
 | str=>
  intro n x r d h p m;cases n with
  |nil=>simp[cW]at h
  | cons c n=>
   cases c<;>simp[cW]at h
   obtain⟨rfl,rfl⟩:=h;refine⟨by simp[Sh.size];omega,by simp[Sh.size],?_⟩;intro j c g;cases j with
   |succ j=>simp[zq]at g
   | zero=>
    simp[zq]at g;subst g;exact(p 0 _ rfl).weak q
 | sl e ih=>
  intro n x r d h p m;cases n with
  |nil=>simp[cW]at h
  | cons c n=>
   simp only[cW]at h;split at h
   .rename_i l t;cases h;refine⟨by simp[Sh.size];omega,by simp[Sh.size],?_⟩;intro j c g;cases j with
    |succ j=>simp[zq]at g
    | zero=>
     simp[zq]at g;subst g;exact sF t (p 0 _ rfl) q (λid o=>(m id (by simp[o])).1) (λid o=>(m id (by simp[o])).2)
   .cases h
 | pr a b y z=>
  intro n x r d h p m;simp only[cW]at h;split at h
  .rename_i H G E;split at h
   .rename_i x2 r2 F;cases h;have⟨l1,A,D⟩:=y n H G d E p m;subst A;have⟨l2,C,g2⟩:=z _ x2 r (λj=>d (a.size+j)) F (λj c g=>by
      grind)
     (λid o=>m id (by
      grind))
    refine⟨?_,?_,?_⟩
    .simp[Sh.size]at*;omega
    .rw[C,List.drop_drop];simp[Sh.size]
    .intro j c g;simp only[zq]at g;by_cases u:j<a.size
     .rw[qQ (by rw[zS];exact u)]at g;exact D j c g
     .rw[nf (by rw[zS];omega),zS]at g;grind
   .cases h
  .cases h
 | expr=>
  intro n x r d h p m;simp only[cW]at h;unfold tA at h;split at h<;>try (cases h;done)
  rename_i op k i vs s c r';split at h
  .rename_i l t;cases h;refine⟨by simp[Sh.size];omega,by simp[Sh.size],?_⟩;intro j c' g
   match j with
   |0=>simp[zq,zg.op]at g;subst g;exact(p 0 _ rfl).weak q
   |1=>simp[zq,zg.v]at g;subst g;exact(p 1 _ rfl).weak q
   |2=>simp[zq,zg.v]at g;subst g;exact(p 2 _ rfl).weak q
   |3=>simp[zq,zg.v]at g;subst g;exact(p 3 _ rfl).weak q
   |4=>simp[zq,zg.s]at g;subst g;exact(p 4 _ rfl).weak q
   | 5=>
    simp[zq,zg.l]at g;subst g;exact sF t (p 5 _ rfl) q (λid o=>(m id (by simp[o])).1) (λid o=>(m id (by simp[o])).2)
   |j+6=>simp[zq]at g
  .cases h
variable {α:Type}
@[simp] theorem Tr.val_bind {β:Type} (t:K α) (k:α->K β):(t.bind k).val=t.val.bind λa=>(k a).val:=by
 induction t with
 |err=>rfl
 |chk c t x=>cases c<;>simp[Tr.bind,Tr.val,x]
 |br c t f h i=>cases c<;>simp[Tr.bind,Tr.val,h,i]
 |ok a=>rfl
@[simp] theorem Tr.val_err:(Tr.err:K α).val=Q2:=rfl
@[simp] theorem Tr.val_ok  (a:α):(Tr.ok a).val=Y a:=rfl
@[simp] theorem Tr.val_chk  (c:Bool) (t:K α) (a:α):(chk c t).val=Y a↔c=Z/\t.val=Y a:=by cases c<;>simp[Tr.val]
@[simp] theorem zre (v:R) (f:fb):(ret v).val=Y f↔f={val:=v}:=by simp[ret,eq_comm]
@[simp] theorem zq1 (v:Option R) (f:fb):(DF v).val=Y f↔∃x,v=Y x/\f={val:=x}:=by cases v<;>simp[DF]
section
variable {P:Program} {w:World} {U:Nat->Prop} {ρ:Nat->Option Value}
variable {t:TypeId}{n:Nat}
theorem cK(h:fL P t=Y n)(w:World):(Go.sizeOf t).run P w=.ok n w:=by
 unfold fL at h;cases x:P.info? t with
 |none=>simp[x]at h
 |some i=>simp[x]at h;simp[Go.sizeOf,typeInfo,x,h]
theorem jp{b:Bool}(h:C3 P t=Y b)(w:World):(isAgg t).run P w=.ok b w:=by
 unfold C3 at h;cases x:P.underlying t with
 |none=>simp[x]at h
 |some d=>cases d<;>simp[x]at h<;>subst h<;>simp[isAgg,bm x]
theorem Addr.add_none(b o n:Nat):(⟨b,o,Q2⟩:Addr).add n=⟨b,o+n,Q2⟩:=by unfold Addr.add;split<;>simp_all
theorem qy{o k:Nat}(h:(List.range n)[o]?=Y k):o<n/\k=o:=by grind
theorem rZ{e:List R}{r:R}{b o:Nat}{vals:Nat->Value}(h:rp P t e n=Y r)
  (d:∀j,j<M e->w.cell? ⟨b,o+j,Q2⟩=Y (vals j)) (q:∀j,j<M e->(vals j).oneCell'=Z)
  (p:∀(j:Nat)(c:R),e[j]?=Y c->Rv w U ρ c (vals j)):
  ∃x,(loadVar t ⟨b,o+n,Q2⟩).run P w=.ok x w/\Rv w U ρ r x:=by
 unfold rp at h;split at h
 .rename_i a g m;split at h
  .rename_i l;cases h;refine⟨.agg ((List.range a).map λj=>vals (n+j)).toArray,?_,?_⟩
   .have:=run_loadCells_list (P:=P) w ⟨b,o+n,Q2⟩ ((List.range a).map λj=>vals (n+j)) (λj v k=>by
     rw[Addr.add_none];grind)
    simp only[bR,List.length_range]at this;simp[loadVar,jp g,cK m,this]
   .refine .agg _ _ sg (λv k=>?_) (λj c v s k=>?_)
    .grind
    grind
  .cases h
 next g=>have i:n<M e:=(cQ.1 h).1;refine⟨vals n,?_,p _ _ h⟩;simp[loadVar,jp g,d n i]
 .cases h
variable {v:Value}
theorem Rv.sl_one{p:Sh}{l:List (N p)}(h:Rv w U ρ (.sl p l) v):v.oneCell'=Z:=by cases h<;>rfl
theorem eT:∀(e:Sh)(x:N e)(j:Nat)(c:R)(v:Value),(zq e x)[j]?=Y c->Rv w U ρ c v->v.oneCell'=Z
 |.unit,_,_,_,_,h,_=>by simp[zq]at h
 |.bool,_,0,_,_,h,d=>by simp[zq]at h;subst h;cases d;rfl
 |.int _,_,0,_,_,h,d=>by simp[zq]at h;subst h;cases d;rfl
 |.str,_,0,_,_,h,d=>by simp[zq]at h;subst h;cases d;rfl
 |.sl _,_,0,_,_,h,d=>by simp[zq]at h;subst h;cases d<;>rfl
 |.bool,_,_+1,_,_,h,_=>by simp[zq]at h
 |.int _,_,_+1,_,_,h,_=>by simp[zq]at h
 |.str,_,_+1,_,_,h,_=>by simp[zq]at h
 |.sl _,_,_+1,_,_,h,_=>by simp[zq]at h
 | .pr a b,x,j,c,v,h,d=>by
  simp only[zq]at h;rcases Nat.lt_or_ge j (zq a x.1).length with g|g
  .rw[qQ g]at h;exact eT a _ _ _ _ h d
  .rw[nf g]at h;exact eT b _ _ _ _ h d
 | .expr,x,j,c,v,h,d=>by
  match j with
  |0=>simp[zq]at h;subst h;cases d;rfl
  |1=>simp[zq]at h;subst h;cases d;rfl
  |2=>simp[zq]at h;subst h;cases d;rfl
  |3=>simp[zq]at h;subst h;cases d;rfl
  |4=>simp[zq]at h;subst h;cases d;rfl
  |5=>simp[zq]at h;subst h;exact d.sl_one
  |_+6=>simp[zq]at h
theorem gJ{av:R}{b:List R}(h:cellsOf av=Y b)(C:Rv w U ρ av v):
  cu w U ρ b v.cells.toList/\∀x∈v.cells.toList,x.oneCell'=Z:=by
 have p:∀{av:R},v.oneCell'=Z->Rv w U ρ av v->cu w U ρ [av] v.cells.toList/\∀x∈v.cells.toList,x.oneCell'=Z:=by
  intro av u C;have:v.cells=#[v]:=by cases v<;>simp[Value.oneCell']at u<;>rfl
  rw[this];refine⟨⟨rfl,λj c x E hx=>?_⟩,by simpa using u⟩;cases j with
  |zero=>simp_all
  |succ j=>simp at E
 cases C with
 |any v=>simp[cellsOf]at h
 |tup b vs hl C=>simp[cellsOf]at h
 | agg h3 vs hl u C=>
  simp[cellsOf]at h;subst h;exact⟨⟨by simp[Value.cells,hl],λj c v E F=>C j c v E (by simpa[Value.cells]using F)⟩,by simpa[Value.cells]using u⟩
 |kb d=>simp[cellsOf]at h;subst h;exact p rfl (.kb d)
 |bool d=>simp[cellsOf]at h;subst h;exact p rfl (.bool d)
 |int k n hk=>simp[cellsOf]at h;subst h;exact p rfl (.int k n hk)
 |str s hs=>simp[cellsOf]at h;subst h;exact p rfl (.str s hs)
 |nils a=>simp[cellsOf]at h;subst h;exact p rfl (.nils a)
 |sl0 e a c=>simp[cellsOf]at h;subst h;exact p rfl (.sl0 e a c)
 |sl e l d o c A E H y D q C=>simp[cellsOf]at h;subst h;exact p rfl (.sl e l d o c A E H y D q C)
 |vec id v F u=>simp[cellsOf]at h;subst h;exact p u (.vec id v F u)
 |ptr id z d y=>simp[cellsOf]at h;subst h;exact p rfl (.ptr id z d y)
 |vptr id sz i z d n c y=>simp[cellsOf]at h;subst h;exact p rfl (.vptr id sz i z d n c y)
 |eptr b z d o A y D q u C=>simp[cellsOf]at h;subst h;exact p rfl (.eptr b z d o A y D q u C)
 |nilp=>simp[cellsOf]at h;subst h;exact p rfl .nilp
 |clo fn fs b vf vc hf E h2 h0=>simp[cellsOf]at h;subst h;exact p rfl (.clo fn fs b vf vc hf E h2 h0)
 |nilf=>simp[cellsOf]at h;subst h;exact p rfl .nilf
 |mp id v F u=>simp[cellsOf]at h;subst h;exact p u (.mp id v F u)
 |ifcN=>simp[cellsOf]at h;subst h;exact p rfl .ifcN
 |ifcS t v=>simp[cellsOf]at h;subst h;exact p rfl (.ifcS t v)
 |tab k zs d g G y D=>simp[cellsOf]at h;subst h;exact p rfl (.tab k zs d g G y D)
 |gint m d g G H y D=>simp[cellsOf]at h;subst h;exact p rfl (.gint m d g G H y D)
theorem Rf{v:Array Value}{x:Nat×Nat}(h:w.heap[n]?=Y (.cells v t x))(j:Nat)(a:j<v.size):
  w.cell? ⟨n,j,Q2⟩=Y (v.toList.getD j undef):=by simp[World.cell?,h,oP a,List.getD]
variable {f:fb}
theorem EX{hp:Nat->AO}{av:R}(h:(GD P hp t av).val=Y f)(hv:Rv w U ρ av v)
  (H:∀id∈av.ids,aW w U ρ id (hp id)):∃r x,f={val:=r}/\(Instr.loadAt t v).run P w=.ok x w/\Rv w U ρ r x:=by
 unfold GD at h;split at h
 .rename_i id h6;cases hv with
  |ptr _ _ b hb=>
  have G:=H id (by simp[AV.ids]);split at h
  .rename_i cs u;rw[u]at G;have⟨b',d,q,k,E,z,h4,h5⟩:=G;rw[hb]at k;cases k;simp at h;obtain⟨r,A,rfl⟩:=h
   have⟨x,C,p⟩:=rZ (w:=w) (U:=U) (ρ:=ρ) (b:=b) (o:=0) (vals:=λj=>q.toList.getD j undef) A
    (λj m=>by rw[dz];exact Rf z j (by rw[h4.len]at m;simpa using m))
    (λj m=>h5.1 _ (by
     rw[h4.len]at m;simp_all))
    (λj c hc=>h4.rv j c _ hc (by
     have m:j<q.toList.length:=by rw[<-h4.len];exact(cQ.1 hc).1
     simp_all))
   rw[dz]at C;exact⟨r,x,rfl,by simp[Instr.loadAt,Instr.sureAddr,C],p⟩
  .simp at h
 .rename_i cs h6;cases hv with
  |eptr _ _ b o q hb hU s k A=>
  simp at h;obtain⟨r,y,rfl⟩:=h;have⟨x,C,p⟩:=rZ (w:=w) (U:=U) (ρ:=ρ) y s k A;exact⟨r,x,rfl,by simp[Instr.loadAt,Instr.sureAddr,C],p⟩
 .rename_i id sz i h6;cases hv with
  |vptr _ _ _ _ b n c hb=>
  have G:=H id (by simp[AV.ids]);split at h
  .rename_i e l u;rw[u]at G;have⟨a,c',k,hm,z⟩:=G;rw[hb]at k;cases k;split at h
   .rename_i h0;subst h0;simp at h;obtain⟨hi,r,A,rfl⟩:=h;rcases z with⟨rfl,_⟩|⟨b',d,D,h7,hc,hU,h8,h0,h9,y,_⟩
    .simp at hi
    .cases h7;have F:l[i]?.getD (zk e)=l[i]:=by simp[zQ hi]
     rw[F]at A;have g:∀j,j<(zq e l[i]).length->∃v c,D[i*e.size+j]?=Y v/\(zq e l[i])[j]?=Y c/\Rv w U ρ c v:=by
      intro j m;have⟨v,k,E⟩:=y i hi j _ (zQ m);exact⟨v,_,k,zQ m,E⟩
     have⟨x,C,p⟩:=rZ (w:=w) (U:=U) (ρ:=ρ) (b:=b) (o:=i*e.size) (vals:=λj=>(D[i*e.size+j]?).getD undef) A
      (λj m=>by
       have⟨v,c,k,E,z⟩:=g j m;simp[World.cell?,h8,k])
      (λj m=>by
       have⟨v,c,k,E,z⟩:=g j m;simp only[k,cD];exact eT _ _ _ _ _ E z)
      (λj c hc=>by
       grind)
     exact⟨r,x,rfl,by simp[Instr.loadAt,Instr.sureAddr,C],p⟩
   .simp at h
  .simp at h
 .simp at h
theorem ML{c:R}(h:(GB P t n c).val=Y f)(y:Rv w U ρ c v):
  ∃r x,f={val:=r}/\(Instr.fieldAt t v n).run P w=.ok x w/\Rv w U ρ r x:=by
 unfold GB at h;split at h
 .rename_i p j;unfold yz at j;split at j
  .rename_i fs u;split at h
   .rename_i k D;have g:∀a:Addr,(fieldPlace a p).run P w=.ok (a.add p.offset) w:=by
     intro a;simp[fieldPlace,cK D]
    split at h
    .rename_i id l;cases y with
     |ptr _ _ b q=>
     simp at h;subst h;exact⟨_,_,rfl,by simp[Instr.fieldAt,bm u,j,Instr.sureAddr,g,Addr.add_none],.ptr id (l+p.offset) b q⟩
    .rename_i z l;cases y with
     |eptr _ _ b o s q C m A E=>
     simp at h;subst h;refine⟨_,_,rfl,by simp[Instr.fieldAt,bm u,j,Instr.sureAddr,g,Addr.add_none];rfl,?_⟩;rw[Nat.add_assoc];exact .eptr z (l+p.offset) b o s q C m A E
    .rename_i id sz i l;cases y with
     |vptr _ _ _ _ b d e q=>
     simp at h;subst h;refine⟨_,_,rfl,by simp[Instr.fieldAt,bm u,j,Instr.sureAddr,g,Addr.add_none];rfl,?_⟩;rw[Nat.add_assoc];exact .vptr id sz i (l+p.offset) b d e q
    .simp at h
   .simp at h
  .cases j
 .simp at h
theorem lG{j:Int}:zT j n=Z↔0<=j/\j<n:=by simp[zT]
theorem Ow{j:Int}{x:Nat->R}{g:fb}:∀(n i:Nat),(Rc j x i n).val=Y g->(i:Int)<=j->j<i+n->g={val:=x j.toNat}
 |0,_,h,_,_=>by simp[Rc]at h
 | 1,i,h,b,c=>by
  have:j.toNat=i:=by omega
  simp[Rc]at h;simp_all
 | n+2,i,h,b,c=>by
  rw[Rc,Tr.val]at h;split at h
  .simp_all
  .rename_i a;have a:j≠i:=by simpa using a
   exact Ow (n+1) (i+1) h S S
theorem Bl{d:Nat->AO}{c I:R}{vi:Value}(h:(pf P d t c I).val=Y f)
  (hx:Rv w U ρ c v) (hi:Rv w U ρ I vi) (h5:∀id∈c.ids,aW w U ρ id (d id)):
  ∃r x,f={val:=r}/\(Instr.indexAt t v vi).run P w=.ok x w/\Rv w U ρ r x:=by
 have h2:∀(e:Sh)(l:List (N e))(k:Int)(ik:IntKind)(m:TypeId),P.underlying t=Y (.slice m)->fL P m=Y e.size->0<=k->k<M l->
   Rv w U ρ (.sl e l) v->∃x,(Instr.indexAt t v (.int ik k)).run P w=.ok x w/\Rv w U ρ (.eptr (zq e (l.getD k.toNat (zk e))) 0) x:=by
  intro e l k ik m E n z s D;cases D with
  |sl0 _ a g=>simp at s;omega
  | sl _ _ b o g q hc hm F hU p C=>
   have u:k.toNat<M l:=by omega
   refine⟨.pointer (Y ⟨b,o+k.toNat*e.size+0,Q2⟩),?_,?_⟩
   .simp[Instr.indexAt,asIntOf,bm E,z,s,cK n,Addr.add_none]
   .have G:l.getD k.toNat (zk e)=l[k.toNat]:=by simp[List.getD,zQ u]
    rw[G]
    exact .eptr _ 0 b (o+k.toNat*e.size) (λj=>q k.toNat j) F hU (λj hj=>p _ _ u (by rwa [zS]at hj))
     (λj hj=>eT _ _ j _ _ (zQ hj) (C _ u j _ (zQ hj))) (λj g hc=>C _ u j g hc)
 unfold pf at h;split at h
 .rename_i ik k;cases hi;split at h
  .rename_i m E;split at h
   .rename_i e l;split at h
    next n=>simp[lG]at h;simp_all
    .simp at h
   .rename_i id;have ho:=h5 id (by simp[AV.ids]);split at h
    .rename_i e l A;rw[A]at ho;split at h
     .rename_i n;simp[lG]at h;obtain⟨⟨z,s⟩,rfl⟩:=h;have⟨a,c',D,hm,h3⟩:=ho;cases hx with
      |vec _ _ hv _=>
      rw[D]at hv;cases hv;rcases h3 with⟨rfl,_⟩|⟨b',i,h7,rfl,hc,hU,h8,h6,h9,C,_⟩
      .simp at s;omega
      .refine⟨_,.pointer (Y ⟨b',k.toNat*e.size+0,Q2⟩),rfl,?_,.vptr id e.size k.toNat 0 b' _ _ D⟩;simp[Instr.indexAt,asIntOf,bm E,z,s,cK n,Addr.add_none]
     .simp at h
    .rename_i e l A;rw[A]at ho;split at h
     .rename_i n;simp[lG]at h;obtain⟨⟨z,s⟩,rfl⟩:=h;have⟨v',x1,x0⟩:=ho;cases hx with
      |vec _ _ hv _=>
      simp_all
     .simp at h
    .simp at h
   .simp at h
  .rename_i x2 m E;split at h
   .rename_i sz n;split at h
    .rename_i id y;simp[lG]at h;obtain⟨⟨z,s⟩,rfl⟩:=h;cases hx with
     |ptr _ _ b F=>
     refine⟨_,_,rfl,?_,.ptr id (y+k.toNat*sz) b F⟩;simp[Instr.indexAt,asIntOf,bm E,z,s,cK n,Addr.add_none,Instr.sureAddr]
    .rename_i cs y;simp only[Tr.val]at h;split at h;rotate_left
     .cases h
     rename_i h4;have⟨z,s⟩:=lG.1 h4;have h:=Ow _ _ h S S;subst h;cases hx with
     |eptr _ _ b o q F hU p H D=>
     refine⟨_,.pointer (Y ⟨b,o+(y+k.toNat*sz),Q2⟩),rfl,?_,.eptr cs (y+k.toNat*sz) b o q F hU p H D⟩;simp[Instr.indexAt,asIntOf,bm E,z,s,cK n,Addr.add_none,Instr.sureAddr,Nat.add_assoc]
    .simp at h
   .simp at h
  .simp at h
 .simp at h
end
end Cad
