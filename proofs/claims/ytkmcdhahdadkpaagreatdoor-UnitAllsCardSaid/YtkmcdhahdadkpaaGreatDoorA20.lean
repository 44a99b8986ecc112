/- strings.Compare, bits.Len; slices.Collect. The order of tables by their names: worlds. Sorting a slice of one's own: what it does to memory. -/
import Derived.Test.YtkmcdhahdadkpaaGreatDoorA18
import Derived.Test.YtkmcdhahdadkpaaGreatDoorA19
import Derived.Test.YtkmcdhahdadkpaaGreatDoorA17
import Derived.Sort.Grow
import Derived.Deep.Draws
import Derived.Shelf.SlSortCmp.QuietGrown
import Derived.Test.YtkmcdhahdadkpaaGreatDoorA08
import Derived.Shelf.SlSortCmp.InsertionK
import Derived.Sort.OwnSorted
namespace Cad
open Go Go.Proofs
open Option renaming none→Q2
open Option renaming some→Q1
set_option maxHeartbeats 4000000
open Tr (chk br re)
open AV (nils agg tup ptr kb str sl)
open Go.RowKit Go.Lib in
theorem V1:FK 57 (zV [.str,.str] [zg] (λ_=>true) λx=>(Lib.compareBytes x.1 x.2.1,())):=by
 refine fK (E:=Gf) ⟨Tryz.f57,kw,kw,kw⟩ λx h0 res hx=>?_
 unfold ft at hx;split at hx
 ·simp only[Tr.val,if_true,bD]at hx;subst hx;obtain⟨s,t,u⟩:=x;intro C w U ρ vals _ hr hH hnew hr0 hW;have hl:=hr.len
  match vals,hl,hr with
  | [v1,v2],_,hr=>
   have h1:=hr.rv 0 (.str s) v1 rfl rfl;have h2:=hr.rv 1 (.str t) v2 rfl rfl;cases h1 with
   |str _ hs=>
   cases h2 with
   |str _ ht=>
   refine(Tryz.strings_Compare ⟨s.toArray⟩ ⟨t.toArray⟩ w).mono ?_;rintro e w' ⟨rfl,rfl⟩;refine eJ hH hnew hr0 hW (Below.refl _ _) (.int _ _ ?_);have:∀a b:List UInt8,-1<=Lib.compareBytes a b/\Lib.compareBytes a b<=1:=by
    intro a
    induction a with
    |nil=>intro b;cases b<;>simp[Lib.compareBytes]
    | cons x r ih=>
     intro b;cases b with
     |nil=>simp[Lib.compareBytes]
     | cons y q=>
      unfold Lib.compareBytes;split
      ·simp
      ·split
       ·simp
       ·exact ih q
   obtain⟨h1,h2⟩:=this s t;exact⟨Int.le_trans (by decide:(-9223372036854775808:Int)<=-1) h1,Int.le_trans h2 (by decide:(1:Int)<=9223372036854775807)⟩
 ·simp at hx
def zfy:ac:=aF [.str,.str] [zg] λx=>(Lib.compareBytes x.1 x.2.1,())
theorem zbv:FK 57 zfy:=MP V1
theorem tu:∀(f x:Nat),Lib.bitLenAux f x<=f
 |0,_=>aA _
 | f+1,x=>by
  unfold Lib.bitLenAux;split
  ·omega
  ·have:=tu f (x/2);omega
open Go.RowKit Go.Lib in
theorem Vk:FK 106 (zV [.int .u64] [zg] (λx=>decide (0<=x.1/\x.1<=1000000)) λx=>((Lib.bitLen x.1.toNat:Nat),())):=by
 refine fK (E:=Gf) ⟨Tryz.f106,kw,kw,kw⟩ λx h0 res hx=>?_
 unfold ft at hx;split at hx
 ·simp only[Tr.val]at hx;split at hx
  ·rename_i hc;simp only[bD]at hx;subst hx;obtain⟨n,u⟩:=x;simp only[aP]at hc;intro C w U ρ vals _ hr hH hnew hr0 hW;have hl:=hr.len
   match vals,hl,hr with
   | [v1],_,hr=>
    have h1:=hr.rv 0 (.int .u64 n) v1 rfl rfl;cases h1 with
    |int _ _ hs=>
    refine(Tryz.bits_Len n w hc.1 (Int.le_trans hc.2 (by decide))).mono ?_;rintro e w' ⟨rfl,rfl⟩;refine eJ hH hnew hr0 hW (Below.refl _ _) (.int _ _ ?_);have:=tu 64 n.toNat;exact⟨Int.le_trans (by decide:(-9223372036854775808:Int)<=0) (Int.natCast_nonneg _),Int.le_trans (Int.ofNat_le.2 this) (by decide:((64:Nat):Int)<=9223372036854775807)⟩
  ·simp at hx
 ·simp at hx
def X8:ac:=zV [.int .u64] [zg] (λx=>decide (0<=x.1/\x.1<=1000000)) λx=>((Lib.bitLen x.1.toNat:Nat),())
theorem Vl:FK 106 X8:=Vk
noncomputable def EQ:=Gf.addL [(91,F91),(57,zfy),(106,X8)]
theorem mB:zy EQ:=K5.addL<|fc zg9<|fc zbv<|fc Vl iM
end Cad
namespace Go.Proofs
open Go.RowKit Go.Shelf Go.Sort
open Option renaming none→Q2
open Option renaming some→Q1
set_option maxHeartbeats 1000000 in
theorem Tryz.name52(s:ByteArray)(v1 v2 v3 v4 v5 v6 v7 v8 v9 v10 v11:Value)(W:World):Calls Tryz.prog 52 #[.agg #[.string s,v1,v2,v3,v4,v5,v6,v7,v8,v9,v10,v11]] W λe w'=>e=.returned (.string s)/\w'=W.alloc (.cells #[.string s,v1,v2,v3,v4,v5,v6,v7,v8,v9,v10,v11] 52):=by
 go_enter Tryz.func52,Tryz.ntmps52
 go_wp2
 go_ret
 exact⟨rfl,rfl⟩
set_option maxHeartbeats 4000000 in
theorem Tryz.cmp56(s t:ByteArray)(v1 v2 v3 v4 v5 v6 v7 v8 v9 v10 v11 u1 u2 u3 u4 u5 u6 u7 u8 u9 u10 u11:Value)(nb:Nat)(W:World)(hn:W.cell? ⟨nb,0,Q2⟩=Q1 (.func (.func 52) #[] #[]))(hnb:nb<W.heap.size):
  Calls Tryz.prog 56 #[.agg #[.string s,v1,v2,v3,v4,v5,v6,v7,v8,v9,v10,v11],.agg #[.string t,u1,u2,u3,u4,u5,u6,u7,u8,u9,u10,u11],.pointer (Q1 ⟨nb,0,Q2⟩)] W λe w'=>e=.returned (.int .i64 (Lib.compareBytes s.data.toList t.data.toList))/\∃q os',w'=grow (W.drewN q) os':=by
 have h52:∀(s:ByteArray)(v1 v2 v3 v4 v5 v6 v7 v8 v9 v10 v11:Value)(W':World),Calls Tryz.prog 52 #[.agg #[.string s,v1,v2,v3,v4,v5,v6,v7,v8,v9,v10,v11]] W' λe w'=>e=.returned (.string s)/\∃q os',w'=grow (W'.drewN q) os':=λs v1 v2 v3 v4 v5 v6 v7 v8 v9 v10 v11 W'=>(Tryz.name52 s v1 v2 v3 v4 v5 v6 v7 v8 v9 v10 v11 W').mono λe w' h=>⟨h.1,0,_,h.2.trans (alloc_eq_grow _ _)⟩
 have h57:∀W',Calls Tryz.prog 57 #[.string s,.string t] W' λe w'=>e=.returned (.int .i64 (Lib.compareBytes s.data.toList t.data.toList))/\∃q os',w'=grow (W'.drewN q) os':=λW'=>(Tryz.strings_Compare s t W').mono λe w' h=>⟨h.1,0,#[],by rw[h.2,grow_empty];rfl⟩
 have mixed:Tryz.prog.follows .mixedOrders=true:=by kernel_rfl
 generalize Lib.compareBytes s.data.toList t.data.toList=r at h57⊢
 go_enter Tryz.func56,Tryz.ntmps56
 go_wp2
 obtain⟨W2,hW2⟩:∃W2,(W.alloc (.cells #[.string s,v1,v2,v3,v4,v5,v6,v7,v8,v9,v10,v11] 52)).alloc (.cells #[.string t,u1,u2,u3,u4,u5,u6,u7,u8,u9,u10,u11] 52)=W2:=⟨_,rfl⟩;rw[hW2];have hnn:∀n os,(grow (W2.drewN n) os).cell? ⟨nb,0,Q2⟩=Q1 (.func (.func 52) #[] #[]):=cell_grown (by rw[<-hW2];simp;omega) (by rw[<-hW2,World.cell?_alloc_past _ _ _ (by simp;omega),World.cell?_alloc_past _ _ _ hnb];exact hn);have x0:∀n os,(grow (W2.drewN n) os).cell? ⟨W.heap.size,0,Q2⟩=Q1 (.string s):=cell_grown (by rw[<-hW2];simp<;>omega) (by rw[<-hW2];simp);have y0:∀n os,(grow (W2.drewN n) os).cell? ⟨W.heap.size+1,0,Q2⟩=Q1 (.string t):=cell_grown (by rw[<-hW2];simp<;>omega) (by rw[<-hW2];simp);have x1:∀n os,(grow (W2.drewN n) os).cell? ⟨W.heap.size,1,Q2⟩=Q1 v1:=cell_grown (by rw[<-hW2];simp<;>omega) (by rw[<-hW2];simp);have y1:∀n os,(grow (W2.drewN n) os).cell? ⟨W.heap.size+1,1,Q2⟩=Q1 u1:=cell_grown (by rw[<-hW2];simp<;>omega) (by rw[<-hW2];simp);have x2:∀n os,(grow (W2.drewN n) os).cell? ⟨W.heap.size,2,Q2⟩=Q1 v2:=cell_grown (by rw[<-hW2];simp<;>omega) (by rw[<-hW2];simp);have y2:∀n os,(grow (W2.drewN n) os).cell? ⟨W.heap.size+1,2,Q2⟩=Q1 u2:=cell_grown (by rw[<-hW2];simp<;>omega) (by rw[<-hW2];simp);have x3:∀n os,(grow (W2.drewN n) os).cell? ⟨W.heap.size,3,Q2⟩=Q1 v3:=cell_grown (by rw[<-hW2];simp<;>omega) (by rw[<-hW2];simp);have y3:∀n os,(grow (W2.drewN n) os).cell? ⟨W.heap.size+1,3,Q2⟩=Q1 u3:=cell_grown (by rw[<-hW2];simp<;>omega) (by rw[<-hW2];simp);have x4:∀n os,(grow (W2.drewN n) os).cell? ⟨W.heap.size,4,Q2⟩=Q1 v4:=cell_grown (by rw[<-hW2];simp<;>omega) (by rw[<-hW2];simp);have y4:∀n os,(grow (W2.drewN n) os).cell? ⟨W.heap.size+1,4,Q2⟩=Q1 u4:=cell_grown (by rw[<-hW2];simp<;>omega) (by rw[<-hW2];simp);have x5:∀n os,(grow (W2.drewN n) os).cell? ⟨W.heap.size,5,Q2⟩=Q1 v5:=cell_grown (by rw[<-hW2];simp<;>omega) (by rw[<-hW2];simp);have y5:∀n os,(grow (W2.drewN n) os).cell? ⟨W.heap.size+1,5,Q2⟩=Q1 u5:=cell_grown (by rw[<-hW2];simp<;>omega) (by rw[<-hW2];simp);have x6:∀n os,(grow (W2.drewN n) os).cell? ⟨W.heap.size,6,Q2⟩=Q1 v6:=cell_grown (by rw[<-hW2];simp<;>omega) (by rw[<-hW2];simp);have y6:∀n os,(grow (W2.drewN n) os).cell? ⟨W.heap.size+1,6,Q2⟩=Q1 u6:=cell_grown (by rw[<-hW2];simp<;>omega) (by rw[<-hW2];simp);have x7:∀n os,(grow (W2.drewN n) os).cell? ⟨W.heap.size,7,Q2⟩=Q1 v7:=cell_grown (by rw[<-hW2];simp<;>omega) (by rw[<-hW2];simp);have y7:∀n os,(grow (W2.drewN n) os).cell? ⟨W.heap.size+1,7,Q2⟩=Q1 u7:=cell_grown (by rw[<-hW2];simp<;>omega) (by rw[<-hW2];simp);have x8:∀n os,(grow (W2.drewN n) os).cell? ⟨W.heap.size,8,Q2⟩=Q1 v8:=cell_grown (by rw[<-hW2];simp<;>omega) (by rw[<-hW2];simp);have y8:∀n os,(grow (W2.drewN n) os).cell? ⟨W.heap.size+1,8,Q2⟩=Q1 u8:=cell_grown (by rw[<-hW2];simp<;>omega) (by rw[<-hW2];simp);have x9:∀n os,(grow (W2.drewN n) os).cell? ⟨W.heap.size,9,Q2⟩=Q1 v9:=cell_grown (by rw[<-hW2];simp<;>omega) (by rw[<-hW2];simp);have y9:∀n os,(grow (W2.drewN n) os).cell? ⟨W.heap.size+1,9,Q2⟩=Q1 u9:=cell_grown (by rw[<-hW2];simp<;>omega) (by rw[<-hW2];simp);have x10:∀n os,(grow (W2.drewN n) os).cell? ⟨W.heap.size,10,Q2⟩=Q1 v10:=cell_grown (by rw[<-hW2];simp<;>omega) (by rw[<-hW2];simp);have y10:∀n os,(grow (W2.drewN n) os).cell? ⟨W.heap.size+1,10,Q2⟩=Q1 u10:=cell_grown (by rw[<-hW2];simp<;>omega) (by rw[<-hW2];simp);have x11:∀n os,(grow (W2.drewN n) os).cell? ⟨W.heap.size,11,Q2⟩=Q1 v11:=cell_grown (by rw[<-hW2];simp<;>omega) (by rw[<-hW2];simp);have y11:∀n os,(grow (W2.drewN n) os).cell? ⟨W.heap.size+1,11,Q2⟩=Q1 u11:=cell_grown (by rw[<-hW2];simp<;>omega) (by rw[<-hW2];simp);have hgr:∃os0,W2=grow W os0:=⟨_,by rw[<-hW2,alloc_eq_grow,alloc_eq_grow,grow_grow]⟩;clear hW2 hn
 go_quiet_grown (first|(go_at_call 52;refine Calls.grown_of (h52 _ _ _ _ _ _ _ _ _ _ _ _ _))|(go_at_call 57;refine Calls.grown_of (h57 _)))
 obtain⟨os0,rfl⟩:=hgr
 go_wp2
 go_ret
 exact⟨rfl,nq,os0++osq,by show grow (grow (W.drewN nq) os0) osq=_;rw[grow_grow]⟩
end Go.Proofs
namespace Cad
open Go Go.Proofs Go.Sort
open Option renaming none→Q2
open Option renaming some→Q1
set_option maxHeartbeats 4000000
open Tr (chk br)
open AV (nils agg tup ptr kb str sl)
abbrev Pl(w:World)(U:Nat->Prop)(ρ:Nat->Option Value)(e:Sh)(G:Sem e->Prop):={p:List Value×Sem e//p.1.length=e.size/\(∀v∈p.1,v.oneCell'=true)/\(∀(j:Nat)(c:AV),(zq e p.2)[j]?=Q1 c->∃v,p.1[j]?=Q1 v/\Rv w U ρ c v)/\G p.2}
section
variable {w:World} {U:Nat->Prop} {ρ:Nat->Option Value} {e:Sh} {G:Sem e->Prop}
theorem tU{α:Type}[Inhabited α]{enc:α->List Value}{k g n:Nat}{os:Array Obj}{cur:Array Value}{T:TypeId}(d:Array α)(hb:w.heap[g]?=Q1 (.cells cur T (0,0))):
  (sortWorldK enc k w g 0 n d os).heap[g]?=Q1 (.cells (putCells id 0 (flatK enc k d) cur) T (0,0)):=by
 have hg:g<w.heap.size:=(oD.1 hb).1;unfold sortWorldK;rw[heap_grow_old _ _ (by simpa[putRowK]using hg)];simp[putRowK,putRow,mapBlock,Sort.ahead,th,hb,onCells]
theorem gR{α:Type}[Inhabited α]{enc:α->List Value}{k g n:Nat}{os:Array Obj}(d:Array α){b:Nat}(hb:b<w.heap.size)(hne:b≠g):(sortWorldK enc k w g 0 n d os).heap[b]?=w.heap[b]?:=by
 unfold sortWorldK;rw[heap_grow_old _ _ (by simpa[putRowK]using hb)];have:g≠b:=λe=>hne e.symm
 simp[putRowK,putRow,mapBlock,Sort.ahead,th,this]
theorem P7{id:Nat}{l:List (Sem e)}{v:Value}(_:0<e.size)(ho:bB w U ρ id (.vec e l))(hv:ρ id=Q1 v)(hl:l≠[])(hG:∀x∈l,G x):
  ∃(B cap:Nat)(T:TypeId)(arr:Array Value)(d:Array (Pl w U ρ e G)),v=.slice (Q1 ⟨B,0,Q2⟩) l.length cap/\U B/\w.heap[B]?=Q1 (.cells arr T (0,0))/\arr.size=cap*e.size/\l.length<=cap/\l.length<=aH/\0<cap/\
   d.size=l.length/\d.toList.map (λp=>p.1.2)=l/\∀i(hi:i<d.size)(j:Nat),j<e.size->arr[i*e.size+j]?=d[i].1.1[j]?:=by
 obtain⟨a,c,h1,hm,h3⟩:=ho;rw[hv]at h1;cases h1;rcases h3 with⟨h,_⟩|⟨B,T,arr,rfl,hc,hUB,hB,hsz,hle,hr⟩
 ·exact absurd h hl
 have hex:∀i(hi:i<l.length) j,j<e.size->∃cc x,(zq e l[i])[j]?=Q1 cc/\arr[i*e.size+j]?=Q1 x/\Rv w U ρ cc x/\x.oneCell'=true:=by
  intro i hi j hj;have hget:(zq e l[i])[j]?=Q1 ((zq e l[i])[j]'(by rw[zZ];exact hj)):=zS _;obtain⟨x,h1,h2⟩:=hr i hi j _ hget;exact⟨_,x,hget,h1,h2,fC e l[i] j _ x hget h2⟩
 refine⟨B,c,T,arr,Array.ofFn λi:Fin l.length=>⟨((List.range e.size).map λj=>(arr[i.1*e.size+j]?).getD undef,l[i.1]),sw,λx hx=>?_,λj cc hcc=>?_,hG _ (bd _)⟩,rfl,hUB,hB,hsz,hle,hm,hc,sw,?_,λi hi j hj=>?_⟩
 ·obtain⟨j,hj,rfl⟩:=bq.1 hx;obtain⟨cc,y,_,h2,_,h4⟩:=hex i.1 i.2 j (by simpa using hj);rw[h2];exact h4
 ·have hj:j<e.size:=by have:=(cW.1 hcc).1;rwa [zZ]at this
  obtain⟨c',y,h1,h2,h3,_⟩:=hex i.1 i.2 j hj;have h1':(zq e l[i.1])[j]?=Q1 cc:=hcc;rw[h1']at h1;cases h1;refine⟨y,?_,h3⟩;rw[fi,xm hj];simp[h2]
 ·apply List.ext_getElem
  ·simp
  ·intro i h1 h2;simp
 ·have hi':i<l.length:=by simpa using hi
  obtain⟨c',y,h1,h2,h3,_⟩:=hex i hi' j hj;rw[h2];simp only[Array.getElem_ofFn];rw[fi,xm hj];simp[h2]
theorem UW{hp:Nat->AO}{id n f:Nat}{l:List (Sem e)}{v fv:Value}(cfS:Sem e->Sem e->Int)(hpos:0<e.size)(hub:∀b,U b->b<w.heap.size)(ho:hp id=.vec e l)(hoo:bB w U ρ id (.vec e l))(hv:ρ id=Q1 v)(hl:l≠[])(hG:∀x∈l,G x)
  (hcall:∀(_:Inhabited (Pl w U ρ e G))(B cap:Nat)(d:Array (Pl w U ρ e G)),d.size=l.length->HoldsK (λp=>p.1.1) e.size w B 0 d->B<w.heap.size->ap ρ id (.vec e l) B->
   Calls Tryz.prog f #[.slice (Q1 ⟨B,0,Q2⟩) d.size cap,fv] w λe' w'=>e'=.returned (.tuple #[])/\∃(d':Array (Pl w U ρ e G))(m:Nat)(os:Array Obj),PermIn 0 d.size d d'/\SortedIn (ltOf λp q=>cfS p.1.2 q.1.2) 0 d.size d'/\w'=sortWorldK (λp=>p.1.1) e.size w B 0 m d' os):
  Calls Tryz.prog f #[v,fv] w λe' w'=>∃l',List.Perm l' l/\l'.Pairwise (λx y=>¬cfS y x<0)/\∃v' U' ρ',e'=.returned v'/\Ef n hp {val:=.tup [],wr:=[(id,.vec e l')]} w U ρ v' w' U' ρ':=by
 obtain⟨B,cap,T,arr,d,rfl,hUB,hB,hsz,hle,hm,hc0,hds,hdm,hda⟩:=P7 (G:=G) hpos hoo hv hl hG;have hd0:0<d.size:=by rw[hds];exact List.length_pos_iff.2 hl
 have hBlt:=hub B hUB;have hown:ap ρ id (.vec e l) B:=⟨rfl,_,hv,by simp[eR];omega⟩
 letI inst:Inhabited (Pl w U ρ e G):=⟨d[0]⟩
 have hH:HoldsK (λp:Pl w U ρ e G=>p.1.1) e.size w B 0 d:=by
  intro t ht;rw[size_flatK]at ht;have hq:t/e.size<d.size:=(Nat.div_lt_iff_lt_mul hpos).2 ht;have hr:t%e.size<e.size:=Nat.mod_lt _ hpos;have hk:=hda _ hq _ hr;have hdm':t/e.size*e.size+t%e.size=t:=by have:=Nat.div_add_mod t e.size;rw[Nat.mul_comm]at this;exact this
  rw[hdm']at hk;have hlen:d[t/e.size].1.1.length=e.size:=d[t/e.size].2.1;rw[zS (by rw[hlen];exact hr)]at hk;refine⟨?_,by simp[World.frozen?,hB]⟩;rw[get_flatK _ _ _ _ ht,getElem!_pos d _ hq,getElem!_pos _ _ (by rw[hlen];exact hr)];simp[World.cell?,hB,hk]
 have hca:=hcall inst B cap d hds hH hBlt hown;rw[hds]at hca;refine hca.mono ?_;rintro e' w' ⟨rfl,d',m,os,hp',hsd,rfl⟩;rw[<-hds]at hp' hsd;obtain⟨hs',_,hperm⟩:=hp';have hds':d'.size=l.length:=by rw[hs',hds]
 have hpl:d'.toList.Perm d.toList:=by
  have e1:d'.extract 0 d.size=d':=by rw[<-hs'];simp
  have e2:d.extract 0 d.size=d:=by simp
  rwa [e1,e2]at hperm
 have hB':=tU (enc:=λp:Pl w U ρ e G=>p.1.1) (k:=e.size) (n:=m) (os:=os) d' hB;have hoth:∀b,b<w.heap.size->b≠B->(sortWorldK (λp:Pl w U ρ e G=>p.1.1) e.size w B 0 m d' os).heap[b]?=w.heap[b]?:=λb hb hne=>gR d' hb hne
 have hsize:w.heap.size<=(sortWorldK (λp:Pl w U ρ e G=>p.1.1) e.size w B 0 m d' os).heap.size:=by
  unfold sortWorldK grow putRowK;simp[Sort.ahead]
 have hext:lX w (sortWorldK (λp:Pl w U ρ e G=>p.1.1) e.size w B 0 m d' os):=⟨hsize,rfl,rfl,rfl,λa ha=>by
  by_cases hab:a.block=B
  ·unfold World.frozen?;rw[hab,hB',hB]
  ·exact AM (hoth a.block ha hab)⟩
 generalize sortWorldK (λp:Pl w U ρ e G=>p.1.1) e.size w B 0 m d' os=w' at hB' hoth hsize hext;have hmono:∀{c:AV}{x:Value},Rv w U ρ c x->Rv w' U ρ c x:=λh=>h.mono hsize (λb hb hU=>hoth b hb λhe=>hU (he▸hUB)) (λ_ _ h=>h) (λ_ _ h=>h)
 have hl':(d'.toList.map λp=>p.1.2).length=l.length:=by simp[hds']
 refine⟨d'.toList.map λp=>p.1.2,by rw[<-hdm];exact hpl.map _,?_,_,U,ρ,rfl,?_⟩
 ·rw[List.pairwise_map];refine List.pairwise_iff_getElem.2 λi j hi hj hij=>?_
  have hi':i<d'.size:=by simpa using hi
  have hj':j<d'.size:=by simpa using hj
  have:=hsd i j (be _) hij (by rw[<-hs'];exact hj');rw[getElem!_pos d' _ hj',getElem!_pos d' _ hi']at this;simp only[ltOf,decide_eq_false_iff_not]at this;simpa using this
 ·have hobj:bB w' U ρ id (.vec e (d'.toList.map λp=>p.1.2)):=by
   refine⟨Q1 ⟨B,0,Q2⟩,cap,by rw[hl'];exact hv,by rw[hl'];exact hm,.inr ⟨B,T,_,rfl,hc0,hUB,hB',by simp[putCells,hsz],by rw[hl'];exact hle,?_⟩⟩;intro i hi j c hc;have hi':i<d'.size:=by rw[hds',<-hl'];exact hi
   have hj:j<e.size:=by have:=(cW.1 hc).1;rwa [zZ]at this
   have hc':(zq e d'[i].1.2)[j]?=Q1 c:=by simpa using hc
   obtain⟨x,h1,h2⟩:=d'[i].2.2.2.1 j c hc';refine⟨x,?_,hmono h2⟩;have ht:i*e.size+j<d'.size*e.size:=by
    have:=gW e.size (xt hi');rw[kB]at this;omega
   have ht2:i*e.size+j<arr.size:=by
    rw[hsz];have:=gW e.size (show d'.size<=cap by rw[hds'];exact hle);omega
   have h1':(i*e.size+j)/e.size=i:=by
    rw[oo,Nat.add_mul_div_right _ _ hpos,Nat.div_eq_of_lt hj];omega
   have h2':(i*e.size+j)%e.size=j:=by
    rw[oo,Nat.add_mul_mod_self_right,Nat.mod_eq_of_lt hj]
   have hfl:=get_flatK (λp:Pl w U ρ e G=>p.1.1) e.size d' _ ht;rw[h1',h2',getElem!_pos d' _ hi']at hfl;have hx:d'[i].1.1[j]! =x:=by
    obtain⟨hlt,he⟩:=cW.1 h1;rw[getElem!_pos d'[i].1.1 j hlt];exact he
   rw[hx]at hfl;rw[getElem!_pos _ _ (by simpa using ht)]at hfl;simp[putCells,ht2,ht,hfl]
  have hownb:∀b,ap ρ id (.vec e (d'.toList.map λp=>p.1.2)) b->b=B:=by
   rintro b ⟨_,v,h1,h2⟩;rw[hv]at h1;cases h1;simp[eR]at h2;exact h2.2.symm
  refine⟨hext,.tup [] [] rfl sw,λid' o h=>?_,sw,λ_ _=>rfl,λ_ _ h=>h,λb hb hno=>hoth b hb λhe=>hno id (.vec e (d'.toList.map λp=>p.1.2)) sw (by rw[ho,he];exact hown),λb h=>iO (hub b h) hsize,λ_ _ h=>h,λ_ _ h _=>h,?_,?_⟩
  ·simp at h;obtain⟨rfl,rfl⟩:=h;exact hobj
  ·intro id' o b h hb;refine .inr ⟨id,.vec e (d'.toList.map λp=>p.1.2),sw,?_⟩;rcases h with h|⟨_,h⟩
   ·simp at h;obtain⟨rfl,rfl⟩:=h;rw[hownb b hb,ho];exact hown
   ·simp at h
  ·intro id1 o1 id2 o2 b h1 h2 _ _;rcases h1 with h1|⟨_,h1⟩
   ·rcases h2 with h2|⟨_,h2⟩
    ·simp at h1 h2;rw[h1.1,h2.1]
    ·simp at h2
   ·simp at h1
end
end Cad
