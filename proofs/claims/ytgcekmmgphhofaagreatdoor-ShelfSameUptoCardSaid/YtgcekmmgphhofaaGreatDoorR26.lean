/- strings. -/
import Derived.Test.YtgcekmmgphhofaaGreatDoorR24
import Derived.Test.YtgcekmmgphhofaaGreatDoorR25
import Derived.Test.YtgcekmmgphhofaaGreatDoorR23
import Derived.Shelf.SlSortCmp.InsertionK
import Derived.Sort.OwnSorted
namespace Cad
open Go Go.Proofs Tryz
open List renaming length->Io
open Option renaming none->Q2,some->Q1
set_option maxHeartbeats 4000000
open Tr (chk br re)
open AV (nils agg tup ptr kb str sl)
open Go.RowKit Go.Lib in
theorem Zf:FK 117 (ae [.str,.str] [zi] (λ_=>true) λx=>(Lib.compareBytes x.1 x.2.1,())):=by
 refine cY (E:=Gu) ⟨f117,kw,kw,kw⟩ λx A o d=>?_
 unfold dJ at d;split at d
 .simp only[Tr.val,zj,ax]at d;subst d;have⟨s,t,u⟩:=x;intro C w U ρ v _ c k h j l;have m:=c.len
  match v,m,c with
  | [p,z],_,c=>
   have g:=c.rv 0 (.str s) p rfl rfl;have i:=c.rv 1 (.str t) z rfl rfl;cases g with
   |str _ D=>
   cases i with
   |str _ F=>
   refine(Tryz.strings_Compare ⟨s.toArray⟩ ⟨t.toArray⟩ w).mono ?_;rintro e H ⟨rfl,rfl⟩;refine cI k h j l (Below.refl _ _) (.int _ _ ?_);have:∀a b:List UInt8,-1<=Lib.compareBytes a b/\Lib.compareBytes a b<=1:=by
    intro a
    induction a with
    |nil=>intro b;cases b<;>simp[Lib.compareBytes]
    | cons x r n=>
     intro b;cases b with
     |nil=>simp[Lib.compareBytes]
     | cons y q=>
      unfold Lib.compareBytes;split
      .simp
      .split
       .simp
       .exact n q
   have⟨g,i⟩:=this s t;exact⟨Int.le_trans (by decide:(-9223372036854775808:Int)<=-1) g,Int.le_trans i (by decide:(1:Int)<=9223372036854775807)⟩
 .simp at d
def zkz:zV:=ay [.str,.str] [zi] λx=>(Lib.compareBytes x.1 x.2.1,())
theorem zfE:FK 117 zkz:=On Zf
theorem sH:∀(f x:Nat),Lib.bitLenAux f x<=f
 |0,_=>zK _
 | f+1,x=>by
  unfold Lib.bitLenAux;split
  .omega
  .have:=sH f (x/2);omega
open Go.RowKit Go.Lib in
theorem YE:FK 218 (ae [.int .u64] [zi] (λx=>decide (0<=x.1/\x.1<=1000000)) λx=>((Lib.bitLen x.1.toNat:Nat),())):=by
 refine cY (E:=Gu) ⟨f218,kw,kw,kw⟩ λx o l h=>?_
 unfold dJ at h;split at h
 .simp only[Tr.val]at h;split at h
  .rename_i c;simp only[ax]at h;subst h;have⟨n,u⟩:=x;simp only[aT]at c;intro C w U ρ v _ b i a d j;have k:=b.len
   match v,k,b with
   | [m],_,b=>
    have g:=b.rv 0 (.int .u64 n) m rfl rfl;cases g with
    |int _ _ p=>
    refine(Tryz.bits_Len n w c.1 (Int.le_trans c.2 (by decide))).mono ?_;rintro e q ⟨rfl,rfl⟩;refine cI i a d j (Below.refl _ _) (.int _ _ ?_);have:=sH 64 n.toNat;exact⟨Int.le_trans (by decide:(-9223372036854775808:Int)<=0) (Int.natCast_nonneg _),Int.le_trans (Int.ofNat_le.2 this) (by decide:((64:Nat):Int)<=9223372036854775807)⟩
  .simp at h
 .simp at h
def zbH:zV:=ae [.int .u64] [zi] (λx=>decide (0<=x.1/\x.1<=1000000)) λx=>((Lib.bitLen x.1.toNat:Nat),())
theorem YF:FK 218 zbH:=YE
noncomputable def zdm:=Gu.addL [(160,F91),(117,zkz),(218,zbH)]
theorem qa:zm zdm:=Mv.addL<|fc zmd<|fc zfE<|fc YF ip
end Cad
namespace Go.Proofs
open Go.RowKit Go.Shelf Go.Sort
open Option renaming none->Q2,some->Q1
set_option maxHeartbeats 1000000 in
theorem Tryz.name52(s:ByteArray)(v1 v2 v3 v4 v5 v6 v7 v8 v9 v10 v11:Value)(W:World):Calls Tryz.prog 112 #[.agg #[.string s,v1,v2,v3,v4,v5,v6,v7,v8,v9,v10,v11]] W λe w'=>e=.returned (.string s)/\w'=W.alloc (.cells #[.string s,v1,v2,v3,v4,v5,v6,v7,v8,v9,v10,v11] 90):=by
 go_enter Tryz.func112,Tryz.ntmps112
 go_wp2
 go_ret
 exact⟨rfl,rfl⟩
set_option maxHeartbeats 4000000 in
theorem Tryz.cmp56(s t:ByteArray)(v1 v2 v3 v4 v5 v6 v7 v8 v9 v10 v11 u1 u2 u3 u4 u5 u6 u7 u8 u9 u10 u11:Value)(nb:Nat)(W:World)(hn:W.cell? ⟨nb,0,Q2⟩=Q1 (.func (.func 112) #[] #[]))(hnb:nb<W.heap.size):
  Calls Tryz.prog 116 #[.agg #[.string s,v1,v2,v3,v4,v5,v6,v7,v8,v9,v10,v11],.agg #[.string t,u1,u2,u3,u4,u5,u6,u7,u8,u9,u10,u11],.pointer (Q1 ⟨nb,0,Q2⟩)] W λe w'=>e=.returned (.int .i64 (Lib.compareBytes s.data.toList t.data.toList))/\∃q os',w'=grow (W.drewN q) os':=by
 have h52:∀(s:ByteArray)(v1 v2 v3 v4 v5 v6 v7 v8 v9 v10 v11:Value)(W':World),Calls Tryz.prog 112 #[.agg #[.string s,v1,v2,v3,v4,v5,v6,v7,v8,v9,v10,v11]] W' λe w'=>e=.returned (.string s)/\∃q os',w'=grow (W'.drewN q) os':=λs v1 v2 v3 v4 v5 v6 v7 v8 v9 v10 v11 W'=>(Tryz.name52 s v1 v2 v3 v4 v5 v6 v7 v8 v9 v10 v11 W').mono λe w' h=>⟨h.1,0,_,h.2.trans (alloc_eq_grow _ _)⟩
 have h57:∀W',Calls Tryz.prog 117 #[.string s,.string t] W' λe w'=>e=.returned (.int .i64 (Lib.compareBytes s.data.toList t.data.toList))/\∃q os',w'=grow (W'.drewN q) os':=λW'=>(Tryz.strings_Compare s t W').mono λe w' h=>⟨h.1,0,#[],by rw[h.2,grow_empty];rfl⟩
 have mixed:Tryz.prog.follows .mixedOrders=true:=by kernel_rfl
 generalize Lib.compareBytes s.data.toList t.data.toList=r at h57|-
 go_enter Tryz.func116,Tryz.ntmps116
 go_wp2
 obtain⟨W2,hW2⟩:∃W2,(W.alloc (.cells #[.string s,v1,v2,v3,v4,v5,v6,v7,v8,v9,v10,v11] 90)).alloc (.cells #[.string t,u1,u2,u3,u4,u5,u6,u7,u8,u9,u10,u11] 90)=W2:=⟨_,rfl⟩;rw[hW2];have hnn:∀n os,(grow (W2.drewN n) os).cell? ⟨nb,0,Q2⟩=Q1 (.func (.func 112) #[] #[]):=cell_grown (by rw[<-hW2];simp;omega) (by rw[<-hW2,World.cell?_alloc_past _ _ _ (by simp;omega),World.cell?_alloc_past _ _ _ hnb];exact hn);have x0:∀n os,(grow (W2.drewN n) os).cell? ⟨W.heap.size,0,Q2⟩=Q1 (.string s):=cell_grown (by rw[<-hW2];simp<;>omega) (by rw[<-hW2];simp);have y0:∀n os,(grow (W2.drewN n) os).cell? ⟨W.heap.size+1,0,Q2⟩=Q1 (.string t):=cell_grown (by rw[<-hW2];simp<;>omega) (by rw[<-hW2];simp);have x1:∀n os,(grow (W2.drewN n) os).cell? ⟨W.heap.size,1,Q2⟩=Q1 v1:=cell_grown (by rw[<-hW2];simp<;>omega) (by rw[<-hW2];simp);have y1:∀n os,(grow (W2.drewN n) os).cell? ⟨W.heap.size+1,1,Q2⟩=Q1 u1:=cell_grown (by rw[<-hW2];simp<;>omega) (by rw[<-hW2];simp);have x2:∀n os,(grow (W2.drewN n) os).cell? ⟨W.heap.size,2,Q2⟩=Q1 v2:=cell_grown (by rw[<-hW2];simp<;>omega) (by rw[<-hW2];simp);have y2:∀n os,(grow (W2.drewN n) os).cell? ⟨W.heap.size+1,2,Q2⟩=Q1 u2:=cell_grown (by rw[<-hW2];simp<;>omega) (by rw[<-hW2];simp);have x3:∀n os,(grow (W2.drewN n) os).cell? ⟨W.heap.size,3,Q2⟩=Q1 v3:=cell_grown (by rw[<-hW2];simp<;>omega) (by rw[<-hW2];simp);have y3:∀n os,(grow (W2.drewN n) os).cell? ⟨W.heap.size+1,3,Q2⟩=Q1 u3:=cell_grown (by rw[<-hW2];simp<;>omega) (by rw[<-hW2];simp);have x4:∀n os,(grow (W2.drewN n) os).cell? ⟨W.heap.size,4,Q2⟩=Q1 v4:=cell_grown (by rw[<-hW2];simp<;>omega) (by rw[<-hW2];simp);have y4:∀n os,(grow (W2.drewN n) os).cell? ⟨W.heap.size+1,4,Q2⟩=Q1 u4:=cell_grown (by rw[<-hW2];simp<;>omega) (by rw[<-hW2];simp);have x5:∀n os,(grow (W2.drewN n) os).cell? ⟨W.heap.size,5,Q2⟩=Q1 v5:=cell_grown (by rw[<-hW2];simp<;>omega) (by rw[<-hW2];simp);have y5:∀n os,(grow (W2.drewN n) os).cell? ⟨W.heap.size+1,5,Q2⟩=Q1 u5:=cell_grown (by rw[<-hW2];simp<;>omega) (by rw[<-hW2];simp);have x6:∀n os,(grow (W2.drewN n) os).cell? ⟨W.heap.size,6,Q2⟩=Q1 v6:=cell_grown (by rw[<-hW2];simp<;>omega) (by rw[<-hW2];simp);have y6:∀n os,(grow (W2.drewN n) os).cell? ⟨W.heap.size+1,6,Q2⟩=Q1 u6:=cell_grown (by rw[<-hW2];simp<;>omega) (by rw[<-hW2];simp);have x7:∀n os,(grow (W2.drewN n) os).cell? ⟨W.heap.size,7,Q2⟩=Q1 v7:=cell_grown (by rw[<-hW2];simp<;>omega) (by rw[<-hW2];simp);have y7:∀n os,(grow (W2.drewN n) os).cell? ⟨W.heap.size+1,7,Q2⟩=Q1 u7:=cell_grown (by rw[<-hW2];simp<;>omega) (by rw[<-hW2];simp);have x8:∀n os,(grow (W2.drewN n) os).cell? ⟨W.heap.size,8,Q2⟩=Q1 v8:=cell_grown (by rw[<-hW2];simp<;>omega) (by rw[<-hW2];simp);have y8:∀n os,(grow (W2.drewN n) os).cell? ⟨W.heap.size+1,8,Q2⟩=Q1 u8:=cell_grown (by rw[<-hW2];simp<;>omega) (by rw[<-hW2];simp);have x9:∀n os,(grow (W2.drewN n) os).cell? ⟨W.heap.size,9,Q2⟩=Q1 v9:=cell_grown (by rw[<-hW2];simp<;>omega) (by rw[<-hW2];simp);have y9:∀n os,(grow (W2.drewN n) os).cell? ⟨W.heap.size+1,9,Q2⟩=Q1 u9:=cell_grown (by rw[<-hW2];simp<;>omega) (by rw[<-hW2];simp);have x10:∀n os,(grow (W2.drewN n) os).cell? ⟨W.heap.size,10,Q2⟩=Q1 v10:=cell_grown (by rw[<-hW2];simp<;>omega) (by rw[<-hW2];simp);have y10:∀n os,(grow (W2.drewN n) os).cell? ⟨W.heap.size+1,10,Q2⟩=Q1 u10:=cell_grown (by rw[<-hW2];simp<;>omega) (by rw[<-hW2];simp);have x11:∀n os,(grow (W2.drewN n) os).cell? ⟨W.heap.size,11,Q2⟩=Q1 v11:=cell_grown (by rw[<-hW2];simp<;>omega) (by rw[<-hW2];simp);have y11:∀n os,(grow (W2.drewN n) os).cell? ⟨W.heap.size+1,11,Q2⟩=Q1 u11:=cell_grown (by rw[<-hW2];simp<;>omega) (by rw[<-hW2];simp);have hgr:∃os0,W2=grow W os0:=⟨_,by rw[<-hW2,alloc_eq_grow,alloc_eq_grow,grow_grow]⟩;clear hW2 hn
 go_quiet_grown (first|(go_at_call 112;refine Calls.grown_of (h52 _ _ _ _ _ _ _ _ _ _ _ _ _))|(go_at_call 117;refine Calls.grown_of (h57 _)))
 obtain⟨os0,rfl⟩:=hgr
 go_wp2
 go_ret
 exact⟨rfl,nq,os0++osq,by show grow (grow (W.drewN nq) os0) osq=_;rw[grow_grow]⟩
end Go.Proofs
namespace Cad
open Go Go.Proofs Go.Sort Tryz
open List renaming length->M
open Option renaming none->Q2,some->Y
open Cad renaming Sem->N,AV->R
set_option maxHeartbeats 4000000
open Tr (chk br)
open AV (nils agg tup ptr kb str sl)
abbrev Pl(w:World)(U:Nat->Prop)(ρ:Nat->Option Value)(e:Sh)(G:N e->Prop):={p:List Value×N e//M p.1=e.size/\(∀v∈p.1,v.oneCell'=true)/\(∀(j:Nat)(c:R),(zq e p.2)[j]?=Y c->∃v,p.1[j]?=Y v/\Rv w U ρ c v)/\G p.2}
section
variable {w:World} {U:Nat->Prop} {ρ:Nat->Option Value} {e:Sh} {G:N e->Prop}
variable {α:Type}{n:Nat}{os:Array Obj}
theorem tw[Inhabited α]{enc:α->List Value}{k g:Nat}{c:Array Value}{h:TypeId}(d:Array α)(x:w.heap[g]?=Y (.cells c h (0,0))):
  (sortWorldK enc k w g 0 n d os).heap[g]?=Y (.cells (putCells id 0 (flatK enc k d) c) h (0,0)):=by have a:g<w.heap.size:=(dq.1 x).1;unfold sortWorldK;rw[heap_grow_old _ _ (by simpa[putRowK]using a)];simp[putRowK,putRow,mapBlock,Sort.ahead,oe,x,onCells]
theorem gM[Inhabited α]{h:α->List Value}{k g:Nat}(d:Array α){b:Nat}(a:b<w.heap.size)(x:b≠g):(sortWorldK h k w g 0 n d os).heap[b]?=w.heap[b]?:=by
 unfold sortWorldK;rw[heap_grow_old _ _ (by simpa[putRowK]using a)];have:g≠b:=λe=>x e.symm
 simp[putRowK,putRow,mapBlock,Sort.ahead,oe,this]
variable {l:List (N e)}{v:Value}
theorem Tn{id:Nat}(_:0<e.size)(ho:aW w U ρ id (.vec e l))(hv:ρ id=Y v)(hl:l≠[])(hG:∀x∈l,G x):
  ∃(B n:Nat)(b:TypeId)(g:Array Value)(d:Array (Pl w U ρ e G)),v=.slice (Y ⟨B,0,Q2⟩) (M l) n/\(e=.int .u8->b=Yl)/\U B/\w.heap[B]?=Y (.cells g b (0,0))/\g.size=n*e.size/\M l<=n/\M l<=af/\0<n/\
   d.size=M l/\d.toList.map (λp=>p.1.2)=l/\∀i(z:i<d.size)(j:Nat),j<e.size->g[i*e.size+j]?=d[i].1.1[j]?:=by
 have⟨a,c,o,hm,A⟩:=ho;rw[hv]at o;cases o;rcases A with⟨h,_⟩|⟨B,b,g,rfl,hc,E,hB,P,H,hr,D⟩
 .exact zp h hl
 have s:∀i(z:i<M l) j,j<e.size->∃t x,(zq e l[i])[j]?=Y t/\g[i*e.size+j]?=Y x/\Rv w U ρ t x/\x.oneCell'=true:=by
  intro i z j q;have k:(zq e l[i])[j]?=Y ((zq e l[i])[j]'(by rw[zS];exact q)):=zQ _;have⟨x,o,m⟩:=hr i z j _ k;exact⟨_,x,k,o,m,eT e l[i] j _ x k m⟩
 refine⟨B,c,b,g,Array.ofFn λi:Fin (M l)=>⟨((List.range e.size).map λj=>(g[i.1*e.size+j]?).getD undef,l[i.1]),sw,λx hx=>?_,λj t u=>?_,hG _ (bN _)⟩,rfl,D,E,hB,P,H,hm,hc,sw,?_,λi z j q=>?_⟩
 .obtain⟨j,q,rfl⟩:=aN.1 hx;have⟨t,y,_,m,_,h4⟩:=s i.1 i.2 j (by simpa using q);rw[m];exact h4
 .have q:j<e.size:=by have:=(cQ.1 u).1;rwa [zS]at this
  have⟨c',y,o,m,A,_⟩:=s i.1 i.2 j q;have C:(zq e l[i.1])[j]?=Y t:=u;rw[C]at o;cases o;refine⟨y,?_,A⟩;rw[b8,ly q];simp[m]
 .apply List.ext_getElem
  .simp
  .intro i o m;simp
 .have F:i<M l:=by simpa using z
  have⟨c',y,o,m,A,_⟩:=s i F j q;rw[m];simp only[Array.getElem_ofFn];rw[b8,ly q];simp[m]
theorem Ys{hp:Nat->AO}{id f:Nat}{fv:Value}(x3:N e->N e->Int)(Q:List (N e)->Prop)(u:0<e.size)(a5:∀b,U b->b<w.heap.size)(ho:hp id=.vec e l)(i7:aW w U ρ id (.vec e l))(hv:ρ id=Y v)(hl:l≠[])(hG:∀x∈l,G x)
  (h8:∀(_:Inhabited (Pl w U ρ e G))(B z:Nat)(d:Array (Pl w U ρ e G)),d.size=M l->(d.toList.map λp=>p.1.2)=l->HoldsK (λp=>p.1.1) e.size w B 0 d->B<w.heap.size->zY ρ id (.vec e l) B->
   Calls prog f #[.slice (Y ⟨B,0,Q2⟩) d.size z,fv] w λe' w'=>e'=.returned (.tuple #[])/\∃(g:Array (Pl w U ρ e G))(m:Nat)(os:Array Obj),PermIn 0 d.size d g/\SortedIn (ltOf λp q=>x3 p.1.2 q.1.2) 0 d.size g/\w'=sortWorldK (λp=>p.1.1) e.size w B 0 m g os/\Q (g.toList.map λp=>p.1.2)):
  Calls prog f #[v,fv] w λe' w'=>∃l',List.Perm l' l/\l'.Pairwise (λx y=>¬x3 y x<0)/\Q l'/\∃v' U' ρ',e'=.returned v'/\Ef n hp {val:=.tup [],wr:=[(id,.vec e l')]} w U ρ v' w' U' ρ':=by
 obtain⟨B,z,a,a6,d,rfl,a9,h7,hB,a4,a0,hm,i1,D,x7,i2⟩:=Tn (G:=G) u i7 hv hl hG;have j1:0<d.size:=by rw[D];exact List.length_pos_iff.2 hl
 have x5:=a5 B h7;have H:zY ρ id (.vec e l) B:=⟨rfl,_,hv,by simp[bz];omega⟩
 letI h6:Inhabited (Pl w U ρ e G):=⟨d[0]⟩
 have hH:HoldsK (λp:Pl w U ρ e G=>p.1.1) e.size w B 0 d:=by
  intro t ht;rw[size_flatK]at ht;have hq:t/e.size<d.size:=(Nat.div_lt_iff_lt_mul u).2 ht;have hr:t%e.size<e.size:=Nat.mod_lt _ u;have hk:=i2 _ hq _ hr;have x8:t/e.size*e.size+t%e.size=t:=by have:=Nat.div_add_mod t e.size;rw[Nat.mul_comm]at this;exact this
  rw[x8]at hk;have h5:d[t/e.size].1.1.length=e.size:=d[t/e.size].2.1;rw[zQ (by rw[h5];exact hr)]at hk;refine⟨?_,by simp[World.frozen?,hB]⟩;rw[get_flatK _ _ _ _ ht,getElem!_pos d _ hq,getElem!_pos _ _ (by rw[h5];exact hr)];simp[World.cell?,hB,hk]
 have x6:=h8 h6 B z d D x7 hH x5 H;rw[D]at x6;refine x6.mono ?_;rintro e' w' ⟨rfl,g,m,os,a2,a3,rfl,hQ⟩;rw[<-D]at a2 a3;have⟨x2,_,x1⟩:=a2;have E:g.size=M l:=by rw[x2,D]
 have i8:g.toList.Perm d.toList:=by
  have e1:g.extract 0 d.size=g:=by rw[<-x2];simp
  have e2:d.extract 0 d.size=d:=by simp
  rwa [e1,e2]at x1
 have x4:=tw (enc:=λp:Pl w U ρ e G=>p.1.1) (k:=e.size) (n:=m) (os:=os) g hB;have F:∀b,b<w.heap.size->b≠B->(sortWorldK (λp:Pl w U ρ e G=>p.1.1) e.size w B 0 m g os).heap[b]?=w.heap[b]?:=λb hb i5=>gM g hb i5
 have s:w.heap.size<=(sortWorldK (λp:Pl w U ρ e G=>p.1.1) e.size w B 0 m g os).heap.size:=by
  unfold sortWorldK grow putRowK;simp[Sort.ahead]
 have h4:jt w (sortWorldK (λp:Pl w U ρ e G=>p.1.1) e.size w B 0 m g os):=⟨s,rfl,rfl,rfl⟩;generalize sortWorldK (λp:Pl w U ρ e G=>p.1.1) e.size w B 0 m g os=w' at x4 F s h4;have h9:∀{c:R}{x:Value},Rv w U ρ c x->Rv w' U ρ c x:=λh=>h.mono s (λb hb hU=>F b hb λhe=>hU (he▸h7)) (λ_ _ h=>h) (λ_ _ h=>h)
 have h3:(g.toList.map λp=>p.1.2).length=M l:=by simp[E]
 refine⟨g.toList.map λp=>p.1.2,by rw[<-x7];exact i8.map _,?_,hQ,_,U,ρ,rfl,?_⟩
 .rw[List.pairwise_map];refine List.pairwise_iff_getElem.2 λi j hi hj i3=>?_
  have h0:i<g.size:=by simpa using hi
  have x9:j<g.size:=by simpa using hj
  have:=a3 i j (zU _) i3 (by rw[<-x2];exact x9);rw[getElem!_pos g _ x9,getElem!_pos g _ h0]at this;simp only[ltOf,ef]at this;simpa using this
 .have a1:aW w' U ρ id (.vec e (g.toList.map λp=>p.1.2)):=by
   refine⟨Y ⟨B,0,Q2⟩,z,by rw[h3];exact hv,by rw[h3];exact hm,.inr ⟨B,a,_,rfl,i1,h7,x4,by simp[putCells,a4],by rw[h3];exact a0,?_,a9⟩⟩;intro i hi j c hc;have h0:i<g.size:=by rw[E,<-h3];exact hi
   have hj:j<e.size:=by have:=(cQ.1 hc).1;rwa [zS]at this
   have i0:(zq e g[i].1.2)[j]?=Y c:=by simpa using hc
   have⟨x,A,C⟩:=g[i].2.2.2.1 j c i0;refine⟨x,?_,h9 C⟩;have ht:i*e.size+j<g.size*e.size:=by
    have:=gu e.size (D1 h0);rw[jG]at this;omega
   have i9:i*e.size+j<a6.size:=by
    rw[a4];have:=gu e.size (show g.size<=z by rw[E];exact a0);omega
   have a7:(i*e.size+j)/e.size=i:=by
    rw[oV,Nat.add_mul_div_right _ _ u,Nat.div_eq_of_lt hj];omega
   have a8:(i*e.size+j)%e.size=j:=by
    rw[oV,Nat.add_mul_mod_self_right,Nat.mod_eq_of_lt hj]
   have P:=get_flatK (λp:Pl w U ρ e G=>p.1.1) e.size g _ ht;rw[a7,a8,getElem!_pos g _ h0]at P;have hx:g[i].1.1[j]! =x:=by
    have⟨i4,he⟩:=cQ.1 A;rw[getElem!_pos g[i].1.1 j i4];exact he
   rw[hx]at P;rw[getElem!_pos _ _ (by simpa using ht)]at P;simp[putCells,i9,ht,P]
  have x0:∀b,zY ρ id (.vec e (g.toList.map λp=>p.1.2)) b->b=B:=by
   rintro b ⟨_,v,A,C⟩;rw[hv]at A;cases A;simp[bz]at C;exact C.2.symm
  refine⟨h4,.tup [] [] rfl sw,λj0 o h=>?_,sw,λ_ _=>rfl,λ_ _ h=>h,λb hb i6=>F b hb λhe=>i6 id (.vec e (g.toList.map λp=>p.1.2)) sw (by rw[ho,he];exact H),λb h=>cM (a5 b h) s,λ_ _ h=>h,λ_ _ h _=>h,?_,?_⟩
  .simp at h;obtain⟨rfl,rfl⟩:=h;exact a1
  .intro j0 o b h hb;refine .inr ⟨id,.vec e (g.toList.map λp=>p.1.2),sw,?_⟩;rcases h with h|⟨_,h⟩
   .simp at h;obtain⟨rfl,rfl⟩:=h;rw[x0 b hb,ho];exact H
   .simp at h
  .intro j2 o1 j3 o2 b A C _ _;rcases A with A|⟨_,A⟩
   .rcases C with C|⟨_,C⟩
    .simp at A C;rw[A.1,C.1]
    .simp at C
   .simp at A
end
end Cad
