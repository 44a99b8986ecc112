/- The order of values. -/
import Derived.StillTailTactics
import Derived.Test.YtgcekmmgphhofaaGreatDoorR28
import Derived.Maps.RangeWalk
import Derived.Shelf.SlSortCmp.NoneTotal
namespace Go.Proofs
open Cad (zK zO zf zj zr)
open Go.Shelf Go.RowKit Go.Lib Go.Sort
open Bool renaming false->Q5,true->Q4
open Option renaming none->Q2,some->Q1
theorem gd_of{w w':World}(h:Below w.heap.size w w')(hd:w.drawn<=w'.drawn):∃q os',w'=grow (w.drewN q) os':=by
 refine⟨w'.drawn-w.drawn,w'.heap.extract w.heap.size w'.heap.size,?_⟩;have hh:w'.heap=w.heap++w'.heap.extract w.heap.size w'.heap.size:=by
  apply Array.ext_getElem?;intro i;by_cases hi:i<w.heap.size
  .rw[Array.getElem?_append_left hi,h.block i hi]
  .rw[Array.getElem?_append_right (by omega)];have hs:=h.size;by_cases hi2:i<w'.heap.size
   .rw[Array.getElem?_extract,zf (by omega)];congr 1;omega
   .rw[Array.getElem?_eq_none (by omega),Array.getElem?_eq_none (by simp;omega)]
 obtain⟨heap,tape,drawn,os,output⟩:=w;obtain⟨heap',tape',drawn',os',output'⟩:=w';have h1:=h.os;have h2:=h.tape;have h3:=h.output;simp only at h1 h2 h3 hd hh;subst h1 h2 h3;unfold grow World.drewN;simp only[World.mk.injEq,true_and,and_true];exact⟨hh,by omega⟩
set_option maxHeartbeats 1000000 in
theorem Tryz.odd63(r:Nat)(W:World):Calls Tryz.prog 135 #[.int .i32 (r:Int)] W λe w'=>e=.returned (.bool (decide ((r:Int)<32)||decide ((r:Int)>126)))/\w'=W:=by
 go_enter Tryz.func135,Tryz.ntmps135
 go_wp2
 .go_ret
  exact⟨by simp,rfl⟩
 next h=>
  go_ret
  exact⟨by simp,rfl⟩
set_option maxHeartbeats 4000000 in
set_option maxRecDepth 1000000 in
theorem Tryz.indexFunc112(p:Nat->Bool)(s:ByteArray)(w:World)(hp:∀(W:World)(x:Nat),Calls Tryz.prog 135 #[.int .i32 (x:Int)] W λe w'=>e=.returned (.bool (p x))/\w'=W):
  Calls Tryz.prog 187 #[.string s,.func (.func 135) #[] #[],.bool Q4] w λe w'=>e=.returned (.int .i64 (Lib.idxFunc p Q4 s))/\Below w.heap.size w w'/\w.drawn<=w'.drawn:=by
 go_enter Tryz.func187,Tryz.ntmps187
 go_wp2
 go_loopg [] s.size (λgf wx=>∃pos:Nat,wx.heap[w.heap.size]?=Q1 (.stringIter s pos)/\(Below w.heap.size w wx/\w.drawn<=wx.drawn)/\Lib.idxFuncFrom p Q4 s gf pos=Lib.idxFunc p Q4 s/\s.size<=pos+gf)
 case atStart=>exact⟨0,World.iter_heap w s 0,⟨(Below.refl _ w).alloc (zK _) _,zK _⟩,rfl,by omega⟩
 case round=>
  obtain⟨pos,hit,⟨hbw,hdr⟩,hleft,hfu⟩:=hrel;by_cases hps:pos<s.size
  .obtain⟨g',rfl⟩:∃g',gk=g'+1:=⟨gk-1,by omega⟩;have hnx:∀ty,(Instr.next (.pointer (Q1 ⟨w.heap.size,0,Q2⟩)) Q4 ty).run Tryz.prog wr=_:=λty=>Lib.run_next_any_at wr w.heap.size s pos ty hit hps
   have hwd:=Lib.width_pos s pos;obtain⟨R,hR⟩:∃R,(Utf8.decode s pos).1=R:=⟨_,rfl⟩;obtain⟨K,hK⟩:∃K,(Utf8.decode s pos).2=K:=⟨_,rfl⟩;simp only[Lib.idxFuncFrom,hps,zj,hR,hK]at hleft;rw[hR,hK]at hnx;rw[hK]at hwd;have hit2:=Lib.iterAt_heap wr w.heap.size s pos (pos+K) hit;have hbw2:=Lib.below_iterAt hbw (k:=w.heap.size) (zK _) s (pos+K);have hdr2:w.drawn<=(wr.iterAt w.heap.size s (pos+K)).drawn:=hdr;obtain⟨W,hWd⟩:∃W,wr.iterAt w.heap.size s (pos+K)=W:=⟨_,rfl⟩;rw[hWd]at hnx hit2 hbw2 hdr2;have cS:=hp W R;clear hp;cases hsp:p R<;>rw[hsp]at cS<;>simp only[hsp,zj,zO,zr]at hleft
   .go_wp2_with (go_at_call 135;refine cS.mono ?_;rintro e W' ⟨rfl,rfl⟩)
    go_roundg g'
    case measure=>omega
    case rel=>exact⟨pos+K,hit2,⟨hbw2,hdr2⟩,hleft,by omega⟩
   .go_wp2_with (go_at_call 135;refine cS.mono ?_;rintro e W' ⟨rfl,rfl⟩)
    go_ret
    exact⟨by rw[<-hleft]<;>rfl,hbw2,hdr2⟩
  .have hnx:∀ty,(Instr.next (.pointer (Q1 ⟨w.heap.size,0,Q2⟩)) Q4 ty).run Tryz.prog wr=_:=λty=>Lib.run_next_end_at wr w.heap.size s pos ty hit hps
   rw[Lib.idxFuncFrom_end p Q4 s gk pos hps]at hleft
   go_wp2
   go_ret
   exact⟨by rw[<-hleft]<;>rfl,hbw,hdr⟩
theorem Tryz.indexFunc64(p:Nat->Bool)(s:ByteArray)(w:World)(hp:∀(W:World)(x:Nat),Calls Tryz.prog 135 #[.int .i32 (x:Int)] W λe w'=>e=.returned (.bool (p x))/\w'=W):
  Calls Tryz.prog 136 #[.string s,.func (.func 135) #[] #[]] w λe w'=>e=.returned (.int .i64 (Lib.idxFunc p Q4 s))/\Below w.heap.size w w'/\w.drawn<=w'.drawn:=by
 have h:=λW'=>Tryz.indexFunc112 p s W' hp
 go_enter Tryz.func136,Tryz.ntmps136
 go_wp2_with (go_at_call 187;refine(h _).mono ?_;rintro e w' ⟨rfl,h1,h2⟩)
 go_ret
 exact⟨rfl,h1,h2⟩
end Go.Proofs
namespace Cad
open Go Go.Proofs Go.Sort Tryz
open List renaming length->M
open IntKind renaming wrap->Γ,i64->Δ
open AV renaming sl->O
open Option renaming none->Q2,some->Y
open Cad renaming ow->S,Sem->N,ai->I,Tr->K,ze->Q
open Bool renaming true->Z,false->J
open Tr (chk br re)
open AV (nils agg tup ptr kb str)
noncomputable section
set_option maxHeartbeats 4000000
theorem zpb(a:World)(x:Nat):Calls prog 135 #[.int .i32 (x:Int)] a λe w=>e=.returned (.bool (B6 x))/\w=a:=
 (Tryz.odd63 x a).mono λe w h=>⟨by rw[h.1];unfold B6;cases decide ((x:Int)<32)<;>rfl,h.2⟩
theorem zo8(k n:Int)(s:zD)(a:World):Calls prog 86 #[.agg #[.int .i64 k,.int .i64 n,.string ⟨s.toArray⟩]] a λe w=>e=.returned (.bool (aP (k,n,s)))/\RowKit.Below a.heap.size a w/\a.drawn<=w.drawn:=by
 have h:=λd=>Tryz.indexFunc64 (λr=>B6 r) ⟨s.toArray⟩ d zpb
 have j:Lib.idxFunc (λr=>B6 r) Z ⟨s.toArray⟩=px s:=rfl;rw[j]at h;have c:aP (k,n,s)=aP (k,n,s):=rfl;generalize b:aP (k,n,s)=R at c|-;clear c;unfold aP at b;generalize px s=x at h b
 go_enter func86,ntmps86
 go_wp2_with (go_at_call 136;refine(h _).mono ?_;rintro e w ⟨rfl,g,i⟩)
 all_goals
  go_ret
  refine⟨?_,?_,?_⟩
  .rw[<-b];congr 2;simp_all<;>(rw[<-b];first|(rw[aQ S];rfl)|(rw[beq_false_of_ne ‹¬n=0›];first|rfl|(rw[beq_false_of_ne ‹¬n=1›];rfl)))
  .first
   |exact(RowKit.Below.refl _ _).alloc (zK _) _
   |exact((RowKit.Below.refl _ a).alloc (zK _) _).trans (g.mono sw)
  .first
   |exact zK _
   |exact i
theorem Ti(d w:World)(a b c x y z:Value)(h:RowKit.Below ((d.alloc (.cells #[a,b,c] 42)).alloc (.cells #[x,y,z] 42)).heap.size ((d.alloc (.cells #[a,b,c] 42)).alloc (.cells #[x,y,z] 42)) w):
  w.cell? ⟨d.heap.size,0,Q2⟩=Y a/\w.cell? ⟨d.heap.size,1,Q2⟩=Y b/\w.cell? ⟨d.heap.size,2,Q2⟩=Y c/\
  w.cell? ⟨d.heap.size+1,0,Q2⟩=Y x/\w.cell? ⟨d.heap.size+1,1,Q2⟩=Y y/\w.cell? ⟨d.heap.size+1,2,Q2⟩=Y z/\
  w.frozen? ⟨d.heap.size+1,0,Q2⟩=J/\w.frozen? ⟨d.heap.size+1,1,Q2⟩=J/\w.frozen? ⟨d.heap.size+1,2,Q2⟩=J/\w.heap[d.heap.size+1]?=Y (.cells #[x,y,z] 42 (0,0)):=by
 have e:=h.block d.heap.size sg;have g:=h.block (d.heap.size+1) sw;have e0:((d.alloc (.cells #[a,b,c] 42)).alloc (.cells #[x,y,z] 42)).heap[d.heap.size]?=Y (.cells #[a,b,c] 42 (0,0)):=(bH _ _ _ sw).trans (ce _ _);have i:((d.alloc (.cells #[a,b,c] 42)).alloc (.cells #[x,y,z] 42)).heap[d.heap.size+1]?=Y (.cells #[x,y,z] 42 (0,0)):=by
  have:=ce (d.alloc (.cells #[a,b,c] 42)) (.cells #[x,y,z] 42)
  rwa [ba]at this
 rw[e0]at e;rw[i]at g;simp[World.cell?,World.frozen?,e,g]
theorem Kg(k n:Int)(s:zD)(x:World):Calls prog 209 #[.agg #[.int .i64 k,.int .i64 n,.string ⟨s.toArray⟩]] x λe w=>e=.returned (.agg #[.int .i64 (bw (k,n,s)).1,.int .i64 (bw (k,n,s)).2.1,.string ⟨(bw (k,n,s)).q.toArray⟩])/\RowKit.Below x.heap.size x w/\x.drawn<=w.drawn:=by
 have h:=λb=>zo8 k n s b
 unfold bw;generalize aP (k,n,s)=R at h|-
 go_enter func209,ntmps209
 go_wp2_with (go_at_call 86;refine(h _).mono ?_;rintro e w ⟨rfl,a,d⟩;have⟨j,l,m,o,t,u,v,y,z,c⟩:=Ti x w (.int .i64 k) (.int .i64 n) (.string ⟨s.toArray⟩) (.int .i64 0) (.int .i64 0) (.string ⟨#[]⟩) a)
 all_goals
  have g:RowKit.Below x.heap.size x w:=(((RowKit.Below.refl _ x).alloc (zK _) _).alloc sw _).trans (a.mono sg);have i:x.drawn<=w.drawn:=d;refine bodyPost_ret (results_cell_row rfl _ _ (x.heap.size+1) 42 _ (0,0) _ rfl (by simp[World.setCell,oe,c];rfl) underlying42 rfl kw) rfl ⟨?_,?_,?_⟩
  .rfl
  .exact((g.setCell (p:=⟨x.heap.size+1,0,Q2⟩) sw _).setCell (p:=⟨x.heap.size+1,1,Q2⟩) sw _).setCell (p:=⟨x.heap.size+1,2,Q2⟩) sw _
  .exact i
open Go Go.Proofs
set_option maxRecDepth 100000
theorem WN(x:Int)(h:World):Calls prog 268 #[.int .i64 x] h λe w=>e=.returned (.bool J)/\w=h:=by
 go_enter func268,ntmps268
 go_wp2
 go_ret
 exact⟨sw,rfl⟩
theorem WO(x:Int)(h:World):Calls prog 269 #[.int .i64 x] h λe w=>e=.returned (.bool J)/\w=h:=by
 go_enter func269,ntmps269
 go_wp2
 go_ret
 exact⟨sw,rfl⟩
theorem WP(x:ByteArray)(h:World):Calls prog 270 #[.string x] h λe w=>e=.returned (.bool J)/\w=h:=by
 go_enter func270,ntmps270
 go_wp2
 go_ret
 exact⟨sw,rfl⟩
theorem Ur(x y:Int):Dq x y=(ite (x<y) (-1) (ite (y<x) 1 0):Int):=by unfold Dq;simp
theorem Rj(x y:Int):qY x y=(ite (x<y) (-1) (ite (y<x) 1 0):Int):=by unfold qY;simp
theorem zgI(x y:Int)(h:World):Calls prog 210 #[.int .i64 x,.int .i64 y] h λe w=>e=.returned (.int .i64 (Dq x y))/\w=h:=by
 have b:=λa=>WN x a
 have c:=λa=>WN y a
 rw[Ur]
 go_enter func210,ntmps210
 go_wp2_with (first|(go_at_call 268;refine(b _).mono ?_;rintro e w ⟨rfl,rfl⟩)|(go_at_call 268;refine(c _).mono ?_;rintro e w ⟨rfl,rfl⟩))
 all_goals
  go_ret
  refine⟨?_,rfl⟩;congr 2
theorem zgJ(x y:Int)(h:World):Calls prog 211 #[.int .i64 x,.int .i64 y] h λe w=>e=.returned (.int .i64 (qY x y))/\w=h:=by
 have b:=λa=>WO x a
 have c:=λa=>WO y a
 rw[Rj]
 go_enter func211,ntmps211
 go_wp2_with (first|(go_at_call 269;refine(b _).mono ?_;rintro e w ⟨rfl,rfl⟩)|(go_at_call 269;refine(c _).mono ?_;rintro e w ⟨rfl,rfl⟩))
 all_goals
  go_ret
  refine⟨?_,rfl⟩;congr 2
theorem zgK(x y:zD)(h:World):Calls prog 212 #[.string ⟨x.toArray⟩,.string ⟨y.toArray⟩] h λe w=>e=.returned (.int .i64 (uQ x y))/\w=h:=by
 have c:=λa=>WP ⟨x.toArray⟩ a
 have d:=λa=>WP ⟨y.toArray⟩ a
 have g:∀a,(binOp .gtr 9 (.string ⟨x.toArray⟩) (.string ⟨y.toArray⟩)).run prog a=.ok (.bool (!(Op.bytesLess x y||x==y))) a:=λa=>by simp[binOp,Op.stringOp]
 have b:uQ x y=(ite (Op.bytesLess x y=Z) (-1) (ite ((!(Op.bytesLess x y||x==y))=Z) 1 0):Int):=by unfold uQ;simp
 rw[b];clear b
 go_enter func212,ntmps212
 go_wp2_with (first|(go_at_call 270;refine(c _).mono ?_;rintro e w ⟨rfl,rfl⟩)|(go_at_call 270;refine(d _).mono ?_;rintro e w ⟨rfl,rfl⟩))
 all_goals
  go_ret
  refine⟨?_,rfl⟩;simp_all
theorem zqu(x y z:Int)(b:Nat)(h:World)(i:h.cell? ⟨b,0,Q2⟩=Y (.int .i64 x))(j:h.cell? ⟨b,1,Q2⟩=Y (.int .i64 y))(k:h.cell? ⟨b,2,Q2⟩=Y (.int .i64 z)):
  Calls prog 159 #[.slice (Y ⟨b,0,Q2⟩) 3 3] h λe w=>e=.returned (.int .i64 (Nk [x,y,z]))/\w=h:=by
 have g:Nk [x,y,z]=if x=0 then(ite (y=0) z y)else x:=by
  unfold Nk;unfold Nk;unfold Nk;unfold Nk;by_cases a:x=0<;>by_cases c:y=0<;>by_cases d:z=0<;>simp[a,c,d]
 rw[g];clear g
 go_enter func159,ntmps159
 go_wp2
 by_cases a:x=0
 .subst a;by_cases c:y=0
  .subst c;by_cases d:z=0
   .subst d;refine wp_loop_rounds 4 ?_
    (rw[rounds_succ];go_wp2)
    (rw[rounds_succ];go_wp2)
    (rw[rounds_succ];go_wp2)
    (rw[rounds_succ];go_wp2)
    go_ret
    exact⟨by simp[*],rfl⟩
   .refine wp_loop_rounds 4 ?_
    (rw[rounds_succ];go_wp2)
    (rw[rounds_succ];go_wp2)
    (rw[rounds_succ];go_wp2)
    go_ret
    exact⟨by simp[*],rfl⟩
  .refine wp_loop_rounds 4 ?_
   (rw[rounds_succ];go_wp2)
   (rw[rounds_succ];go_wp2)
   go_ret
   exact⟨by simp[*],rfl⟩
 .refine wp_loop_rounds 4 ?_
  (rw[rounds_succ];go_wp2)
  go_ret
  exact⟨by simp[*],rfl⟩
structure zrp (p:Prop):Prop where
 out:p
variable {A:World}{p q:Nat}{a b c:Value}
theorem Kf{w:World}{x y z:Value}(e0:A.heap[p]?=Y (.cells #[a,b,c] 42 (0,0)))(e:A.heap[q]?=Y (.cells #[x,y,z] 42 (0,0)))(h:RowKit.Below A.heap.size A w):
  w.heap[p]?=Y (.cells #[a,b,c] 42 (0,0))/\w.heap[q]?=Y (.cells #[x,y,z] 42 (0,0)):=
 ⟨(h.block p (dq.1 e0).1).trans e0,(h.block q (dq.1 e).1).trans e⟩
theorem ie(e0:A.heap[p]?=Y (.cells #[a,b,c] 42 (0,0))):
  A.cell? ⟨p,0,Q2⟩=Y a/\A.cell? ⟨p,1,Q2⟩=Y b/\A.cell? ⟨p,2,Q2⟩=Y c/\A.frozen? ⟨p,0,Q2⟩=J/\A.frozen? ⟨p,1,Q2⟩=J/\A.frozen? ⟨p,2,Q2⟩=J:=by simp[World.cell?,World.frozen?,e0]
theorem za1(k n:Int)(s:zD)(j l:Int)(m:zD)(h:World):Calls prog 155 #[.agg #[.int .i64 k,.int .i64 n,.string ⟨s.toArray⟩],.agg #[.int .i64 j,.int .i64 l,.string ⟨m.toArray⟩]] h λe w'=>e=.returned (.int .i64 (aV (k,n,s) (j,l,m)))/\RowKit.Below h.heap.size h w'/\h.drawn<=w'.drawn:=by
 have G:=λg=>Kg k n s g
 have i:=λg=>Kg j l m g
 have w:prog.follows .mixedOrders=Z:=by kernel_rfl
 unfold aV;generalize bw (k,n,s)=a at G|-;generalize bw (j,l,m)=b at i|-;have⟨y,z,C⟩:=a;have⟨D,E,F⟩:=b
 dsimp only at G i|-
 have k1:=λg=>zgI y D g
 have k2:=λg=>zgJ z E g
 have k3:=λg=>zgK C F g
 generalize Dq y D=m1 at k1|-;generalize qY z E=m2 at k2|-;generalize uQ C F=m3 at k3|-
 go_enter func155,ntmps155
 go_wp2
 obtain⟨o,x⟩:∃o,(h.alloc (.cells #[.int .i64 k,.int .i64 n,.string ⟨s.toArray⟩] 42)).alloc (.cells #[.int .i64 j,.int .i64 l,.string ⟨m.toArray⟩] 42)=o:=⟨_,rfl⟩;have e0:o.heap[h.heap.size]?=Y (.cells #[.int .i64 k,.int .i64 n,.string ⟨s.toArray⟩] 42 (0,0)):=by rw[<-x];exact(bH _ _ _ sw).trans (ce _ _)
 have e1:o.heap[h.heap.size+1]?=Y (.cells #[.int .i64 j,.int .i64 l,.string ⟨m.toArray⟩] 42 (0,0)):=by
  rw[<-x];have:=ce (h.alloc (.cells #[.int .i64 k,.int .i64 n,.string ⟨s.toArray⟩] 42)) (.cells #[.int .i64 j,.int .i64 l,.string ⟨m.toArray⟩] 42)
  rwa [ba]at this
 have t:RowKit.Below h.heap.size h o:=by rw[<-x];exact((RowKit.Below.refl _ h).alloc (zK _) _).alloc sw _
 have h6:h.drawn<=o.drawn:=by rw[<-x];exact zK _
 rw[x];clear x;have⟨c0,c1,c2,c3,c4,c5⟩:=ie e0;have⟨d0,d1,d2,d3,d4,d5⟩:=ie e1;rename_i K hK
 have d:∀c:World,c.heap[h.heap.size]?=Y (.cells #[.int .i64 y,.int .i64 z,.string ⟨C.toArray⟩] 42 (0,0))->c.heap[h.heap.size+1]?=Y (.cells #[.int .i64 D,.int .i64 E,.string ⟨F.toArray⟩] 42 (0,0))->RowKit.Below h.heap.size h c->h.drawn<=c.drawn->
   K {tmps:=#[.agg #[.int .i64 k,.int .i64 n,.string ⟨s.toArray⟩],.agg #[.int .i64 j,.int .i64 l,.string ⟨m.toArray⟩],.pointer (Y ⟨h.heap.size,0,Q2⟩),.pointer (Y ⟨h.heap.size+1,0,Q2⟩),.int .i64 0,.agg #[.int .i64 k,.int .i64 n,.string ⟨s.toArray⟩],.agg #[.int .i64 y,.int .i64 z,.string ⟨C.toArray⟩],.agg #[.int .i64 j,.int .i64 l,.string ⟨m.toArray⟩],.agg #[.int .i64 D,.int .i64 E,.string ⟨F.toArray⟩],undef,undef,undef,undef,undef,undef,undef,undef,undef,undef,undef,undef,undef,undef,undef,undef,undef],defers:=[]} c:=by
  intro c w0 H U hd3;apply hK;clear hK;have h9:h.heap.size+1<c.heap.size:=(dq.1 H).1;have⟨x0,x1,x2,x3,x4,x5⟩:=ie w0;have⟨y0,y1,y2,y3,y4,y5⟩:=ie H
  go_wp2
  go_still_tail 15,w
  still_call (k1 _)
  repeat still_step
  still_call (k2 _)
  repeat still_step
  still_call (k3 _)
  refine wpStill_nil ?_;change wpList _ _ _ _ _ c.drew;have v:h.drawn<=c.drew.drawn:=aB hd3 (Nat.le_succ _);have u:RowKit.Below h.heap.size h c.drew:=U.drew;generalize c.drew=W4 at v u|-
  go_wp2_with (go_at_call 159;refine(zqu m1 m2 m3 W4.heap.size _ sw sw sw).mono ?_;rintro e w' ⟨rfl,rfl⟩)
  go_ret
  exact⟨rfl,u.alloc u.size _,v⟩
 have h3:=zrp.mk d;clear hK d k1 k2 k3
 go_region_with (first
  |(go_at_call 209;refine(G _).mono ?_;clear G;rintro e H ⟨rfl,q,hd3⟩;have⟨f0,f1⟩:=Kf (A:=o.drew) e0 e1 q;have⟨p0,p1,p2,p3,p4,p5⟩:=ie f0;have⟨q0,q1,q2,q3,q4,q5⟩:=ie f1)
  |(go_at_call 209;refine(i _).mono ?_;clear i;rintro e w2 ⟨rfl,P,v⟩;have⟨g0,g1⟩:=Kf f0 f1 P;have⟨r0,r1,r2,r3,r4,r5⟩:=ie g0;have⟨s0,s1,s2,s3,s4,s5⟩:=ie g1))
 all_goals
  refine h3.out _ ?_ ?_ ?_ ?_
  .simp[World.setCell,oe,g0]
  .simp[World.setCell,oe,g1]
  .have h4:=q.size;have h7:=P.size;have h0:RowKit.Below h.heap.size h w2:=(t.trans ((RowKit.Below.mono ⟨q.os,q.tape,q.output,q.size,q.block⟩ t.size))).trans (P.mono (aB t.size h4));exact(((((h0.setCell (p:=⟨h.heap.size,0,Q2⟩) sw _).setCell (p:=⟨h.heap.size,1,Q2⟩) sw _).setCell (p:=⟨h.heap.size,2,Q2⟩) sw _).setCell (p:=⟨h.heap.size+1,0,Q2⟩) sw _).setCell (p:=⟨h.heap.size+1,1,Q2⟩) sw _).setCell (p:=⟨h.heap.size+1,2,Q2⟩) sw _
  .have h8:o.drawn+1<=H.drawn:=hd3;have h5:h.drawn<=w2.drawn:=by omega
   simpa[World.setCell]using h5
def uT(l:zo):Bool:=l.all (λv=>aP v&&(v.1!=0))&&decide l.Nodup&&!l.isEmpty
theorem X3{x m:zo}(h:uT x=Z)(d:List.Perm m x)(l:m.Pairwise λa y:zw=>¬LT.lt (α:=Int) (aV y a) 0):m=qR x:=by
 simp only[uT,ar,dg,aT,bne_iff_ne,ne_eq]at h;have⟨⟨c,k⟩,_⟩:=h;have⟨i,j⟩:=sE λa b=>(c a b).1
 have g:m.Nodup:=d.nodup_iff.2 k;refine HI ?_ i λa=>?_
 .refine(l.and g).imp_of_mem λ{a y} b n h=>?_
  rcases mW (c y (d.mem_iff.1 n)).1 (c a (d.mem_iff.1 b)).1 h.1 with e|e
  .exact zp e.symm h.2
  .exact e
 .rw[j a,d.mem_iff];exact⟨λb=>⟨b,(c a b).2⟩,λb=>b.1⟩
@[match_pattern] abbrev Nn:Sh:=.pr (.int .i64) (.pr (.int .i64) .str)
theorem zsk:Go.Proofs.Enters prog 155:=by
  cases h:f155.body with
  | none => have:f155.body.isNone=false:=by kernel_rfl
            rw[h]at this;cases this
  |some c=>exact Go.Proofs.enters_of (fn:=f155) kw kw h
abbrev zdJ:=fZ [(4,[5,6,18,19,20]),(11,[9,34])]
inductive QM where
 |h4 (i5:zy) (l18:List (N ze.sl)) (i19:Int) (i20:Int) (mh_0:List ((Int×Int×zD)×Int))
abbrev Mi:QM->Nat×St
 |.h4 x l i h m=>(4,⟨tm 46 [(5,I x),(6,AV.mp 0),(18,O ze.sl l),(19,I i),(20,I h)],[AO.vmap Z m]⟩)
def zhk(x:an)(h:N zl.sl):K (QM⊕ac):=
 let a:=(x.1,x.2.1,x.q.1,(x.r.1.1,x.r.1.2.1,x.r.1.q.1,x.r.1.r.1,x.r.1.t.1,zP x.r.1.u),x.t)
 let b:=List.getD h (Int.toNat 0) (zk zl)
 chk (qJ a h) (chk (zT 0 (M h)) (Tr.to (QM.h4 (fu a h) b.2 (M b.2:Int) 0 [])))
def zqO:QM->K (QM⊕ac)
 | .h4 x l h i m=>
  let a:=l.getD i.toNat (zk ze.sl)
  br (decide (i<h))
  (chk (zT i (M l)) (chk (zT x (M a)) (Tr.to (QM.h4 x l h (Γ Δ (i+1)) (kg m (List.getD a (Int.toNat x) (zk Q)) 0)))))
  Tr.err
def uS(e:List ((Int×Int×zD)×Int))(k:Int×Int×zD):List ((Int×Int×zD)×Int):=match cj e k 0 with
 |some q=>e.eraseIdx q.1
 |none=>e
variable {h:Array MapEntry}{e:List ((Int×Int×zD)×Int)}{k:Int×Int×zD}
theorem ZQ{P:Program}{mt kt et:TypeId}(z:P.underlying mt=Y (.map kt et))(l:gg P kt=Z){r:Nat}(v:ez k)
  (o:A.heap[r]?=Y (.map h q)) (u:(h.toList.map λb=>(b.key,b.val))=Dr Z e) (D:∀p∈e,bq .i64 p.2/\ez p.1) (w:lw h q):
  ∃c:Array MapEntry,(∀y,(Builtin.delete_ #[mt,kt] y #[.map (Y r),cd k]).run P A=.ok (.tuple #[]) {A with heap:=A.heap.setIfInBounds r (.map c q)})/\
   (c.toList.map λb=>(b.key,b.val))=Dr Z (uS e k)/\(∀x∈c.toList,x.born<q)/\(c.toList.map (·.born)).Nodup:=by
 have j:=jb (P:=P) (w:=A) l v Z e h.toList u D;have d:∀x∈h.toList,x.born<q:=λx t=>by
  obtain⟨i,s,rfl⟩:=jf t;have:=w.2 i h.toList[i] (by rw[<-lx];exact zQ s);rw[this,w.1];simpa using s
 have n:(h.toList.map (·.born)).Nodup:=by
  have:h.toList.map (·.born)=List.range h.size:=by
   apply List.ext_getElem
   .simp
   .intro i C E;have s:i<h.size:=by simpa using C
    simp only[List.getElem_map,List.getElem_range];exact w.2 i _ (by rw[<-lx];exact zQ (by simpa using s))
  rw[this];exact List.nodup_range
 unfold uS;cases m:cj e k 0 with
 | none=>
  rw[m]at j;refine⟨h,λy=>?_,u,d,n⟩;simp[Builtin.delete_,bm z,fW o,bp l,j,mi _ o,Result.andThen]
 | some a=>
  rw[m]at j;have g:((h.eraseIdxIfInBounds a.1).toList)=h.toList.eraseIdx a.1:=by simp
  refine⟨h.eraseIdxIfInBounds a.1,λy=>?_,?_,λx t=>?_,?_⟩
  .simp[Builtin.delete_,bm z,fW o,bp l,j,mi _ o,Result.andThen]
  .rw[g,qn,u];exact(qn _ e a.1).symm
  .rw[g]at t;exact d x (List.mem_of_mem_eraseIdx t)
  .rw[g];exact n.sublist ((List.eraseIdx_sublist _ _).map _)
def CD:Code:=match f124.body with
 |some (.seq _ (.seq _ (.seq _ (.seq _ r))))=>r
 |_=>.skip
def BQ:Code:=match f124.body with
 |some (.seq _ (.seq _ (.seq _ (.seq (.seq _ (.block _ (.loop c))) _))))=>c
 |_=>.skip
theorem zhe:zZ f124 4=[.code BQ,.inLoop BQ,.inBlock 0,.code CD]:=kw
theorem zhw:(prog.info? 42).map (λi=>(i.zero,i.size,i.bytes))=Y (Y (.agg #[.int .i64 0,.int .i64 0,.string ⟨#[]⟩]),3,32):=kw
def JQ(l:List ((Int×Int×zD)×MapEntry)):List Value:=l.flatMap λp=>[.int .i64 p.1.1,.int .i64 p.1.2.1,.string ⟨p.1.2.2.toArray⟩]
structure zd8 (w1:World) (r clock:Nat) (ents':Array MapEntry) (v:Value) (wr:World) (seen:Array Nat) (E:List ((Int×Int×zD)×MapEntry)):Prop where
 it:∃c0,wr.heap[w1.heap.size]?=Y (.mapIter (Y r) clock seen c0)/\clock<=c0
 mp:wr.heap[r]?=Y (.map ents' clock)
 sub:∀p∈E,p.2∈ents'.toList/\p.2.key=cd p.1
 sn:seen.toList=E.map λp=>p.2.born
 nd:(E.map λp=>p.2.born).Nodup
 row:wr.ownsRow w1.heap.size 42 3 v (M E) (JQ E)
 bel:RowKit.Below w1.heap.size w1 wr
 cnt:M E+(leftOf ents' seen).size<=ents'.size
theorem Ri(w:World)(l:List Value)(t:TypeId):∀j u,l[j]?=Y u->(w.alloc (.cells l.toArray t)).cell? ((⟨w.heap.size,0,Q2⟩:Addr).add j)=Y u:=by
 intro j u h;unfold Addr.add;split
 next e=>subst e;simp[h]
 .simp[h]
theorem za9(Q:Exit->Act->World->Prop)(c:Value->World->Prop)(r:Nat)(i:Array MapEntry)(d:Nat)(w l:World)(m6:∀ty,(Builtin.delete_ #[246,42] ty #[.map (Y r),.agg #[.int .i64 0,.int .i64 0,.string ⟨#[]⟩]]).run prog w=.ok (.tuple #[]) l)(hm:l.heap[r]?=Y (.map i d))(h6:∀x∈i.toList,x.born<d)(a4:(i.toList.map (·.born)).Nodup) (h9:∀x∈i.toList,∃k,x.key=cd k) (n2:i.size<=1000)
  (x2:∀v wr s E,zd8 l r d i v wr s E->(leftOf i s).size=0->Calls prog 172 #[v,.func (.func 155) #[] #[]] wr λe w'=>e=.returned (.tuple #[])/\c v w')
  (hQ:∀v w'(a:Act),c v w'->a.tmps[4]?=Y v->a.defers=[]->Q Exit.ret a w')
  (v0 v1 v2 v3 v4 v5 v7 v8 v9 i2 i3 i4 i5 i6 i7 i8 i9 j0 j1 v20 j2 j3 j4 j5 j6 j7 j8 j9 k4 k5 k6 k7 k8 k9 l0 l1 l2 l3 l4 l5 l6 l7 l8 l9 m3:Value):
  CD.wp prog Q {tmps:=#[v0,v1,v2,v3,v4,v5,(Value.map (Y r)),v7,v8,v9,i2,i3,i4,i5,i6,i7,i8,i9,j0,j1,v20,j2,j3,j4,j5,j6,j7,j8,j9,k4,k5,k6,k7,k8,k9,l0,l1,l2,l3,l4,l5,l6,l7,l8,l9,m3],defers:=[]} w:=by
 have m9:=run_range_map (P:=prog) l 246 42 247 r i d underlying246 hm;simp only[CD,f124]
 go_wp2
 obtain⟨i0,hi,a8,a9,i1⟩:=info_parts zhw
 go_loopw [9] (λv wr=>∃s E,zd8 l r d i v wr s E)
  (λ_ wr=>(leftOf i (wr.iterSeen l.heap.size)).size)
 case atStart=>
  exact⟨#[],[],⟨⟨d,heap_alloc_new _ _,zK _⟩,by rw[heap_alloc_old _ _ _ (dq.1 hm).1];exact hm,sw,sw,sw,World.ownsRow_nil _ _ _ _,(RowKit.Below.refl _ _).alloc (zK _) _,by simpa[leftOf]using Array.size_filter_le⟩⟩
 case round=>
  obtain⟨s,E,n⟩:=hrel;obtain⟨c0,D,a6⟩:=n.it;have m7:r<l.heap.size:=(dq.1 hm).1;rcases run_next_at (P:=prog) wr 0 l.heap.size r d c0 s i d D n.mp h6 a6 with⟨hz,G⟩|⟨e,he,wd,C,G⟩
  .have x9:=x2 _ _ _ _ n (by simpa using hz);clear n
   go_wp2_with (go_at_call 172;refine x9.mono ?_;rintro e w' ⟨rfl,hS⟩)
   exact hQ _ _ _ hS rfl rfl
  .have h7:e∈i.toList:=by simp[leftOf]at he|-;exact he.1
   have a1:e.born∉E.map λp=>p.2.born:=by
    rw[<-n.sn];simp[leftOf]at he|-;exact he.2
   obtain⟨k,hk⟩:=h9 e h7;have a3:0<(leftOf i s).size:=by
    have:=List.length_pos_of_mem he;simpa using this
   have m4:=n.cnt;have m8:M E<1000:=by omega
   obtain⟨q,m⟩:∃q,ChangeMaps.setBlock wd l.heap.size (.mapIter (Y r) d (s.push e.born) d)=q:=⟨_,rfl⟩;rw[m]at G;have H:wd.heap=wr.heap:=by rcases C with rfl|rfl<;>rfl
   have x4:l.heap.size<wr.heap.size:=(dq.1 D).1;have t:q.heap[l.heap.size]?=Y (.mapIter (Y r) d (s.push e.born) d):=by
    rw[<-m];show(wd.heap.setIfInBounds _ _)[_]?=_;rw[H];simp[x4]
   have h4:∀j,j≠l.heap.size->q.heap[j]?=wr.heap[j]?:=λj F=>by
    rw[<-m];show(wd.heap.setIfInBounds _ _)[_]?=_;rw[H,Array.getElem?_setIfInBounds_ne (λe=>F e.symm)]
   have h5:q.heap.size=wr.heap.size:=by
    rw[<-m];show(wd.heap.setIfInBounds _ _).size=_;rw[H];simp
   have h8:wr.grownBy q (Y l.heap.size):=⟨by rw[<-m];rcases C with rfl|rfl<;>rfl,by rw[<-m];rcases C with rfl|rfl<;>rfl,by rw[<-m];rcases C with rfl|rfl<;>rfl,by rw[h5];exact zK _,λj _ F=>h4 j λe=>F (by rw[e])⟩;have h1:q.heap[r]?=Y (.map i d):=(h4 r S).trans n.mp;have x3:=run_entry_at (P:=prog) q l.heap.size r d s i d e t h1 h7 a4;have A:=n.row.kept h8 (by
    rcases n.row.2 with⟨rfl,_⟩|⟨g,x7,x8,rfl,_,y,_⟩
    .exact .inl rfl
    .refine .inr λe'=>?_
     have:g=l.heap.size:=by simpa[Value.ownBlock]using e'
     subst this;rw[D]at y;cases y)
   have u:RowKit.Below l.heap.size l q:=n.bel.grown h8 n.bel.size (λj e=>by cases e;exact zK _);rw[hk]at G x3;obtain⟨k1,k2,k3⟩:=k;simp only[cd]at G x3;have x6:=n.sub;have a7:=n.sn;have x5:=n.nd;clear m C H h5 h8 n
   go_wp2_with (at_builtin;refine wpList_append_own _ rfl _ _ 50 rfl l.heap.size 42 i0 _ 3 32 underlying50 hi a8 a9 i1 rfl (by decide) _ _ _ rfl ((A.alloc _).alloc _) ⟨q.heap.size+1,0,Q2⟩ 1 1 [.int .i64 k1,.int .i64 k2,.string ⟨k3.toArray⟩] rfl rfl (by have:=Ri (q.alloc (.cells #[.int .i64 k1,.int .i64 k2,.string ⟨k3.toArray⟩] 42)) [.int .i64 k1,.int .i64 k2,.string ⟨k3.toArray⟩] 42;simpa using this) (by simp[Value.oneCell']) (by unfold maxLen;omega) S (by have:=u.size;simp;omega) ?_;intro v' w3 x1 U x0;go_frame)
   obtain⟨o3,a5⟩:∃o:Obj,o=.cells #[.int .i64 k1,.int .i64 k2,.string ⟨k3.toArray⟩] 42:=⟨_,rfl⟩;have h0:World.grownBy ((q.alloc o3).alloc o3) w3 u9.ownBlock:=by rw[a5];exact U
   clear U x0;have z:∀j,u9.ownBlock=Y j->l.heap.size<=j/\j≠l.heap.size:=by
    intro j F;rcases A.2 with⟨rfl,_⟩|⟨g,x7,x8,rfl,a0,y,_⟩
    .simp[Value.ownBlock]at F
    .have:g=j:=by simpa[Value.ownBlock]using F
     subst this;exact⟨a0,λe'=>by subst e';rw[t]at y;cases y⟩
   have n1:l.heap.size<q.heap.size:=(dq.1 t).1;have h3:∀j,j<=l.heap.size->w3.heap[j]?=q.heap[j]?:=λj F=>by
    rw[h0.block j sg (λe'=>by obtain⟨a,b⟩:=z j e'.symm;omega),heap_alloc_old _ _ _ sg,heap_alloc_old _ _ _ S]
   have h2:w3.heap[l.heap.size]?=Y (Obj.mapIter (Y r) d (s.push e.born) d):=(h3 _ (zK _)).trans t;have a2:JQ (E++[((k1,k2,k3),e)])=JQ E++[.int .i64 k1,.int .i64 k2,.string ⟨k3.toArray⟩]:=by simp[JQ]
   refine⟨⟨s.push e.born,E++[((k1,k2,k3),e)],⟨⟨d,h2,zK _⟩,(h3 r S).trans h1,?_,?_,?_,?_,?_,?_⟩⟩,?_⟩
   .intro p hp;rcases bX.1 hp with h|h
    .exact x6 p h
    .obtain rfl:=eh.1 h;exact⟨h7,hk⟩
   .simp[a7]
   .rw[fx];refine List.nodup_append.2 ⟨x5,sw,λa ha b hb=>?_⟩;have:b=e.born:=by simpa using hb
    rintro rfl;exact a1 (this▸ha)
   .rw[a2,cL];exact x1
   .exact((u.alloc S _).alloc sg _).grown h0 sg (λj F=>(z j F).1)
   .have:=left_shrinks _ _ _ he;rw[cL];simp only[bx,cE];omega
   .have e1:wr.iterSeen l.heap.size=s:=by simp[World.iterSeen,D]
    have e2:w3.iterSeen l.heap.size=s.push e.born:=by simp[World.iterSeen,h2]
    rw[e1,e2];exact left_shrinks _ _ _ he
abbrev V3:={x:zw//aP x=Z}
def jx(p:V3):List Value:=[.int .i64 p.1.1,.int .i64 p.1.2.1,.string ⟨(p.1.2.2:zD).toArray⟩]
def I7(p q:V3):Int:=aV p.1 q.1
theorem ziR[Inhabited V3](d:Array V3)(B j:Nat)(w:World)(s:HoldsK jx 3 w B 0 d)(q:B<w.heap.size)(h:d.size<4611686018427387904):
  Calls prog 172 #[.slice (Y ⟨B,0,Q2⟩) d.size j,.func (.func 155) #[] #[]] w λe l=>e=.returned (.tuple #[])/\∃n os,l=sortWorldK jx 3 w B 0 n (d.toList.mergeSort λx y=>!(ltOf I7) y x).toArray os:=by
 refine AnyQ.slices_SortFunc_total Tryz.sortVal 3 isAgg42 sizeOf42 jx (λ_=>rfl) ?_ I7 ?_ 155 #[] B 0 j d w zsk ?_ s q h ?_
 .intro x v k;simp only[jx,bD,List.not_mem_nil,or_false]at k;rcases k with rfl|rfl|rfl<;>rfl
 .refine⟨λx=>?_,λx y z h g=>?_,λx y z h g=>?_⟩
  .exact aQ (gP (a:=x.1))
  .simp only[ltOf,aT]at h g|-;exact fT (a:=x.1) (b:=y.1) (c:=z.1) h g
  .simp only[ltOf,ef]at h g|-;intro i;rcases mW x.2 y.2 h with e|e
   .unfold I7 at i;rw[e]at i;exact g i
   .exact g (fT (a:=y.1) (b:=x.1) (c:=z.1) e i)
 .intro m os u t x y;show Calls prog 155 (#[Value.agg (jx x).toArray,Value.agg (jx y).toArray]++#[]) _ _;refine(za1 x.1.1 x.1.2.1 x.1.2.2 y.1.1 y.1.2.1 y.1.2.2 _).mono ?_;rintro A l ⟨rfl,o,p⟩;exact⟨rfl,gd_of o p⟩
 .intro x y h g;simp only[ltOf,ef]at h g;rcases mW x.2 y.2 h with e|e
  .exact Subtype.ext e
  .exact zp e g
theorem tq[Inhabited V3]:∀(l:List V3)(t:Nat),t<M l*3->(l.flatMap jx)[t]?=Y (jx (l[t/3]!))[t%3]!
 |[],t,h=>by simp at h
 | a::l,t,h=>by
  rw[List.flatMap_cons];by_cases x:t<3
  .have e0:t/3=0:=by omega
   have e:t%3=t:=by omega
   rw[qQ (by simpa[jx]using x),e0,e];rw[List.getElem!_cons_zero,zQ (by simpa[jx]using x),getElem!_pos]
  .obtain⟨s,rfl⟩:∃s,t=s+3:=⟨t-3,S⟩;have e0:(s+3)/3=s/3+1:=by omega
   have e:(s+3)%3=s%3:=by omega
   rw[nf (by simp[jx]),e0,e,List.getElem!_cons_succ];have:=tq l s (by simp at h;omega);simpa[jx]using this
theorem Bv:∀l:List V3,(l.flatMap jx).length=M l*3
 |[]=>rfl
 | a::l=>by
  rw[List.flatMap_cons,cL,Bv l,bx];simp[jx];omega
variable {l:List V3}
theorem Xp[Inhabited V3](w:A.ownsRow p 42 3 a (M l) (l.flatMap jx))(q:M l<4611686018427387904)(U:l≠[]):
  Calls prog 172 #[a,.func (.func 155) #[] #[]] A λe w'=>e=.returned (.tuple #[])/\w'.ownsRow p 42 3 a (M l) ((l.mergeSort λx y=>!(ltOf I7) y x).flatMap jx)/\A.grownBy w' a.ownBlock:=by
 rcases w.2 with⟨_,h0⟩|⟨g,j,o,rfl,D,c,u,F,s,h2⟩
 .exact zp (List.length_eq_zero_iff.1 h0) U
 have hH:HoldsK jx 3 A g 0 l.toArray:=by
  intro t d;rw[size_flatK]at d;have z:t<M l*3:=by simpa using d
  have hc:o.toList[t]?=Y (jx (l[t/3]!))[t%3]!:=by
   rw[<-tq l t z,<-h2,List.getElem?_take_of_lt z]
  refine⟨?_,by simp[World.frozen?,c]⟩;rw[get_flatK _ _ _ _ d];simp[World.cell?,c];simpa using hc
 have hs:=ziR l.toArray g j A hH (dq.1 c).1 (by simpa using q);have h1:l.toArray.size=M l:=by simp
 rw[h1]at hs;refine hs.mono ?_;rintro e w' ⟨rfl,m,os,rfl⟩;have h:(l.mergeSort λx y=>!(ltOf I7) y x).length=M l:=List.length_mergeSort _;simp only[];generalize(l.mergeSort λx y=>!(ltOf I7) y x)=i at h;have C:=tw (enc:=jx) (k:=3) (n:=m) (os:=os) i.toArray c;have v:∀b,b<A.heap.size->b≠g->(sortWorldK jx 3 A g 0 m i.toArray os).heap[b]?=A.heap[b]?:=λb hb P=>gM i.toArray hb P
 refine⟨by first|trivial|rfl,⟨by rw[Bv,h],.inr ⟨g,j,_,rfl,D,C,u,F,by simp[putCells,s],?_⟩⟩,⟨rfl,rfl,rfl,?_,λk hk P=>v k hk λe=>P (by rw[e];rfl)⟩⟩
 .apply kE;intro t;by_cases d:t<M l*3
  .rw[List.getElem?_take_of_lt d,tq i t (by rw[h];exact d),lx];have E:t<o.size:=by rw[s];exact cM d (gu 3 u)
   have G:=get_flatK jx 3 i.toArray t (by simpa[h]using d);have H:(flatK jx 3 i.toArray).size=M l*3:=by simp[h]
   unfold putCells;rw[Array.getElem?_mapIdx,oP E];simp only[As,zU,dz,H,d,and_self,zj,Nat.sub_zero,G,id_eq];simp
  .rw[eA sg,eA (by rw[Bv,h];omega)]
 .unfold sortWorldK grow putRowK;simp[Sort.ahead]
theorem SB(p:Option Addr)(c:Nat)(h:Value)(w:World):Calls prog 172 #[.slice p 0 c,h] w λe x=>e=.returned (.tuple #[])/\x=w:=
 AnyF.slices_SortFunc_none {Tryz.sortVal with} p c h w
theorem zdQ:∀E:List ((Int×Int×zD)×MapEntry),(∀p∈E,aP p.1=Z)->∃l:List V3,l.map (·.1)=E.map (·.1)/\l.flatMap jx=JQ E
 |[],_=>⟨[],rfl,rfl⟩
 | p::E,h=>by
  have⟨l,x,a⟩:=zdQ E λq b=>h q (og _ b)
  refine⟨⟨p.1,h p sy⟩::l,by simp[x],?_⟩;rw[List.flatMap_cons,a];rfl
def Zk(w:World)(e:Array MapEntry)(v:Value)(h:World):Prop:=
 ∃(E:List ((Int×Int×zD)×MapEntry))(l:List V3),(∀p∈E,p.2∈e.toList/\p.2.key=cd p.1)/\(∀x∈e.toList,x.born∈E.map λp=>p.2.born)/\(E.map λp=>p.2.born).Nodup/\l.map (·.1)=E.map (·.1)/\
  h.ownsRow w.heap.size 42 3 v (M l) ((l.mergeSort λx y=>!(ltOf I7) y x).flatMap jx)/\RowKit.Below w.heap.size w h
variable {E:List ((Int×Int×zD)×MapEntry)}
theorem Rm[Inhabited V3]{wr:World}{r:Nat}{s:Array Nat}(d:zd8 A r q h a wr s E)(z:(leftOf h s).size=0)(H:∀p∈E,aP p.1=Z)(P:h.size<=1000):
  Calls prog 172 #[a,.func (.func 155) #[] #[]] wr λe w=>e=.returned (.tuple #[])/\Zk A h a w:=by
 have⟨l,u,F⟩:=zdQ E H;have j:M l=M E:=by simpa using congrArg M u
 have i:∀x∈h.toList,x.born∈E.map λp=>p.2.born:=λx hx=>by
  have:=all_seen h s z x hx;rw[<-d.sn];simpa using this
 have b:=d.row;rw[<-F,<-j]at b;have⟨c0,G,_⟩:=d.it;have v:A.heap.size<=wr.heap.size:=d.bel.size;by_cases m:l=[]
 .subst m;have U:∃p c,a=.slice p 0 c:=by
   rcases b.2 with⟨rfl,_⟩|⟨g,n,o,rfl,_⟩
   .exact⟨_,_,rfl⟩
   .exact⟨_,_,rfl⟩
  obtain⟨p,c,rfl⟩:=U;refine(SB p c _ wr).mono ?_;rintro e w ⟨rfl,rfl⟩;exact⟨rfl,E,[],d.sub,i,d.nd,u,by simpa using b,d.bel⟩
 .refine(Xp b (by have:=d.cnt;omega) m).mono ?_;rintro e w ⟨rfl,C,D⟩;refine⟨rfl,E,l,d.sub,i,d.nd,u,C,d.bel.grown D v λk y=>?_⟩;rcases b.2 with⟨rfl,_⟩|⟨g,n,o,rfl,t,_⟩
  .simp[Value.ownBlock]at y
  .have:g=k:=by simpa[Value.ownBlock]using y
   exact this▸t
theorem Sz(x y z:V3)(h:ltOf I7 x y=J)(g:ltOf I7 y z=J):ltOf I7 x z=J:=by
 simp only[ltOf,ef]at h g|-;intro d;rcases mW x.2 y.2 h with e|e
 .unfold I7 at d;rw[e]at d;exact g d
 .exact g (fT (a:=y.1) (b:=x.1) (c:=z.1) e d)
theorem Sy(x y:V3):(!(ltOf I7 y x)||!(ltOf I7 x y))=Z:=by
 by_cases h:Aj y.1 x.1
 .have:ltOf I7 x y=J:=by
   simp only[ltOf,ef];exact λg=>gP (a:=y.1) (fT (a:=y.1) (b:=x.1) (c:=y.1) h g)
  simp[this]
 .have:ltOf I7 y x=J:=by
   simp only[ltOf,ef];exact h
  simp[this]
theorem NH(l:List V3)(j:(l.map (·.1)).Nodup) (i:∀x∈l,x.1.1≠0):(l.mergeSort λx y=>!(ltOf I7) y x).map (·.1)=qR (l.map (·.1)):=by
 by_cases d:l=[]
 .subst d;simp[qR]
 .refine X3 ?_ ((List.mergeSort_perm l _).map _) ?_
  .have e:l.map (·.1)≠[]:=by simpa using d
   simp only[uT,ar,dg,aT,bne_iff_ne,ne_eq];refine⟨⟨λx k=>?_,j⟩,by simpa using d⟩;obtain⟨y,m,rfl⟩:=aN.1 k;exact⟨y.2,i y m⟩
  .rw[List.pairwise_map];refine(List.pairwise_mergeSort (λa b c h g=>?_) (λa b=>Sy a b) l).imp λ{x y} h=>?_
   .simp only[wX]at h g|-;exact Sz c b a g h
   .simp only[ltOf,wX,ef]at h;exact h
theorem Jg(e:List ((Int×Int×zD)×Int))(k:Int×Int×zD):List.Sublist (uS e k) e:=by
 unfold uS;split
 .exact List.eraseIdx_sublist _ _
 .exact List.Sublist.refl _
theorem wK(k:Int×Int×zD):∀(e:List ((Int×Int×zD)×Int))(i:Nat),(cj e k i).map (·.1)=(cj e k 0).map (λq=>q.1+i)
 |[],_=>rfl
 | p::r,i=>by
  unfold cj;cases k==p.1 with
  |true=>simp
  | false=>
   simp only[bT];have a:=wK k r (i+1);have x:=wK k r 1;rw[a];cases h:cj r k 0 with
   |none=>rw[h]at x;cases b:cj r k (0+1)<;>simp_all
   | some q=>
    rw[h]at x;cases b:cj r k (0+1)with
    |none=>simp_all
    |some c=>simp_all;omega
theorem Ro(p:(Int×Int×zD)×Int)(r:List ((Int×Int×zD)×Int))(k:Int×Int×zD):uS (p::r) k=if k=p.1 then r else p::uS r k:=by
 unfold uS;by_cases h:k=p.1
 .simp[cj,h]
 .have b:(k==p.1)=J:=by simpa using h
  rw[zh h];simp only[cj,b,bT];have:=wK k r 1;cases a:cj r k (0+1)with
  | none=>
   rw[a]at this;cases x:cj r k 0 with
   |none=>rfl
   |some q=>rw[x]at this;simp at this
  | some q=>
   rw[a]at this;cases x:cj r k 0 with
   |none=>rw[x]at this;simp at this
   | some c=>
    rw[x]at this;have e:q.1=c.1+1:=by simpa using this
    simp[e]
theorem AK(k:Int×Int×zD):∀{c:List ((Int×Int×zD)×Int)},(c.map (·.1)).Nodup->∀x,x∈(uS c k).map (·.1)↔x∈c.map (·.1)/\x≠k
 |[],_,x=>by simp[uS,cj]
 | p::r,hn,x=>by
  rw[dc,List.nodup_cons]at hn;rw[Ro];split
  next h=>subst h;rw[dc,bD];refine⟨λa=>⟨.inr a,λe=>hn.1 (e▸a)⟩,λ⟨h,b⟩=>h.resolve_left b⟩
  .rename_i h;rw[dc,bD,dc,bD,AK k hn.2 x];refine⟨λa=>?_,λ⟨a,b⟩=>a.imp id λa=>⟨a,b⟩⟩;rcases a with rfl|a
   .exact⟨.inl rfl,λe=>h e.symm⟩
   .exact⟨.inr a.1,a.2⟩
theorem wi{α β:Type}{f:α->β}:∀{l:List α},(l.map f).Nodup->∀{a b:α},a∈l->b∈l->f a=f b->a=b
 |[],_,_,_,d,_,_=>by cases d
 | x::r,hn,a,b,d,hb,e=>by
  rw[dc,List.nodup_cons]at hn;rcases bD.1 d with c|c
  .rcases bD.1 hb with h|h
   .rw[c,h]
   .exact zp (show f x∈r.map f from aN.2 ⟨b,h,by rw[<-e,c]⟩) hn.1
  .rcases bD.1 hb with h|h
   .exact zp (show f x∈r.map f from aN.2 ⟨a,c,by rw[e,h]⟩) hn.1
   .exact wi hn.2 c h e
theorem Ky:∀{l m:List Nat},l.Nodup->(∀x∈l,x∈m)->M l<=M m
 |[],m,_,_=>by simp
 | a::r,m,hn,h=>by
  rw[List.nodup_cons]at hn;have b:=h a sy;have d:=Ky (l:=r) (m:=m.erase a) hn.2 λx c=>(List.mem_erase_of_ne (λe:x=a=>hn.1 (e▸c))).2 (h x (og _ c))
  have g:=List.length_erase_of_mem b;have i:=List.length_pos_of_mem b;rw[bx];omega
theorem Kt{v:zw}(h:aP v=Z)(x:v.1=0):v=(0,0,[]):=by have⟨k,n,s⟩:=v;subst x;unfold aP at h;simp at h;simp[h]
theorem o9{b:Int×Int×zD}(h:cd k=cd b):k=b:=by have⟨a,x,c⟩:=k;have⟨d,e,g⟩:=b;simpa[cd]using h
theorem KI(a:(h.toList.map λx=>(x.key,x.val))=Dr Z e):h.toList.map (·.key)=(e.map (·.1)).map cd:=by have:=congrArg (List.map Prod.fst) a;simpa[Dr,hZ,wY]using this
theorem rz{x m:zo}(c:∀a∈x,aP a=Z)(d:∀a∈m,aP a=Z)(h:∀a,a.1≠0->(a∈x↔a∈m)):qR x=qR m:=by
 have⟨l,e⟩:=sE c;have⟨m1,m2⟩:=sE d;refine HI l m1 λa=>?_
 rw[e,m2];exact⟨λb=>⟨(h a b.2).1 b.1,b.2⟩,λb=>⟨(h a b.2).2 b.1,b.2⟩⟩
theorem Sq(he:(h.toList.map λd=>(d.key,d.val))=Dr Z e)(hn:(e.map (·.1)).Nodup) (U:∀p∈e,aP p.1=Z) (h0:∀p∈e,p.1.1≠0)
   (s:∀p∈E,p.2∈h.toList/\p.2.key=cd p.1) (t:∀x∈h.toList,x.born∈E.map λp=>p.2.born) (H:(E.map λp=>p.2.born).Nodup) (v:(h.toList.map (·.born)).Nodup)  (F:l.map (·.1)=E.map (·.1)):
  (l.mergeSort λx y=>!(ltOf I7) y x).map (·.1)=qR (e.map (·.1)):=by
 have z:=KI he;have D:(h.toList.map (·.key)).Nodup:=by
  rw[z];exact List.Pairwise.map _ (λa b c d=>c (o9 d)) hn
 have m:∀p∈E,p.1∈e.map (·.1):=λp g=>by
  have⟨h1,h2⟩:=s p g;have:p.2.key∈h.toList.map (·.key):=aN.2 ⟨_,h1,rfl⟩;rw[z,h2]at this;have⟨k,A,C⟩:=aN.1 this;exact o9 C▸A
 have G:(E.map (·.1)).Nodup:=by
  unfold List.Nodup at H|-;rw[List.pairwise_map]at H|-;refine H.imp_of_mem λ{p q} g n c d=>c ?_
  have⟨P,o⟩:=s p g;have⟨q1,q2⟩:=s q n;have:p.2.key=q.2.key:=by rw[o,q2,d]
  rw[wi D P q1 this]
 rw[NH l (by rw[F];exact G) (λx i=>by
  have:x.1∈E.map (·.1):=by rw[<-F];exact aN.2 ⟨x,i,rfl⟩
  have⟨p,g,d⟩:=aN.1 this;have⟨q,n,u⟩:=aN.1 (m p g);rw[<-d,<-u];exact h0 q n),F]
 refine rz (λx i=>?_) (λx i=>?_) λx _=>⟨λi=>?_,λi=>?_⟩
 .obtain⟨p,g,rfl⟩:=aN.1 i;have⟨q,n,u⟩:=aN.1 (m p g);exact u▸U q n
 .obtain⟨p,g,rfl⟩:=aN.1 i;exact U p g
 .obtain⟨p,g,rfl⟩:=aN.1 i;exact m p g
 .have:cd x∈h.toList.map (·.key):=by rw[z];exact aN.2 ⟨x,i,rfl⟩
  have⟨d,j,w⟩:=aN.1 this;have⟨p,g,hb⟩:=aN.1 (t d j);have⟨P,o⟩:=s p g;have:p.2=d:=wi v P j hb;rw[this,w]at o;exact aN.2 ⟨p,g,(o9 o).symm⟩
end
end Cad
