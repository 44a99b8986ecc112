/- What each operation says. -/
import Derived.Test.YtgcekmmgphhofaaGreatDoorR06
namespace Cad
open Go
open List renaming length->M
open Option renaming none->Q2,some->Q1,some->Y
open Tr (chk br)
open AV (nils agg tup ptr kb str sl)
open Cad renaming AV->R,ow->S
section
variable {w:World} {U:Nat->Prop} {ρ:Nat->Option Value}
def lR(gl:Nat->R)(w:World)(U:Nat->Prop):Prop:=∀g,Rv w U (λ_=>Q2) (gl g) (.pointer (Y ⟨g,0,Q2⟩))
structure ky (P:Program) (gl:Nat->R) (k:FuncId) (F:zV):Prop where
 fn:∃fn,P.funcs[k]?=Q1 fn/\(fn.name=="runtime.NumGoroutine")=false/\fn.body.isNone=false
 calls:∀(w:World)(U:Nat->Prop)(ρ:Nat->Option Value)(hp:Nat->AO)(n:Nat)(args:List R)(vals:List Value)(f:fb)(fp:List Nat),(F args hp n).val=Y f->
  cu w U ρ args vals->(∀b,U b->b<w.heap.size)->lR gl w U->uK w U ρ hp fp->(∀id∈AV.idsL args,id∈fp)->(∀id∈fp,∀j∈(hp id).ids,j∈fp)->(∀j,j<f.nw.length->ρ (n+j)=Q2)->
  Calls P k vals.toArray w (λe w'=>∃v U' ρ',e=.returned v/\Ef n hp f w U ρ v w' U' ρ')/\∀id o,(id,o)∈f.wr->id∈fp
structure zm (E:bS):Prop extends EnvOk E where
 fs:∀k F,E.F k=Y F->ky E.P E.gl k F
 mix:E.P.follows .mixedOrders=true
variable {id:Nat}
theorem pB{j:R}(h:id∈ea j):id∈j.ids:=by
 have b:∀x:List R,id∈x.flatMap cJ->id∈AV.idsL x:=by
  intro x
  induction x with
  |nil=>simp
  | cons c x d=>
   intro h;simp only[List.flatMap_cons,bX]at h;simp only[AV.idsL,bX];rcases h with h|h
   .left;cases c<;>simp[cJ]at h
    subst h;simp[AV.ids]
   .exact .inr (d h)
 unfold ea at h;split at h
 .rename_i x a;cases j<;>simp only[cellsOf,ax,reduceCtorEq]at a<;>(try subst a)
  case agg x=>simp only[AV.ids];exact b _ h
  case vec i=>simp[cJ]at h;subst h;simp[AV.ids]
  all_goals simp[cJ]at h
 .simp at h
variable {c:List R}
theorem jm{a:R}(b:a∈c)(h:id∈a.ids):id∈AV.idsL c:=by
 induction c with
 |nil=>simp at b
 | cons x c i=>
  simp only[AV.idsL,bX];grind
theorem Pp(h:id∈AV.idsL c):∃a∈c,id∈a.ids:=by
 induction c with
 |nil=>simp[AV.idsL]at h
 | cons x c i=>
  simp only[AV.idsL,bX]at h;grind
variable {P:Program}{o:Oper}{a:Act}{K:Act->World->Prop}{Q:Exit->Act->World->Prop}{v:Value}
theorem ep{w':World}(h:(execOp a.eval o).run P w=.ok (.value v) w')(x:K (a.put o.dst v) w'):o.wp P a w K Q:=by rw[Oper.wp,h];exact x
theorem pS{x:World}(h:(execOp a.eval o).run P w=.ok .skip x)(b:K (a.put o.dst undef) x):o.wp P a w K Q:=by rw[Oper.wp,h];exact b
theorem qA{ev:Operand->R}{g:Operand->Value}:∀(a:List Operand),(∀x∈a,Rv w U ρ (ev x) (g x))->cu w U ρ (a.map ev) (a.map g)
 |[],_=>⟨rfl,sw⟩
 | x::a,h=>by
  have i:=qA a (λy b=>h y (by simp[b]));refine⟨sw,λj c v d e=>?_⟩;grind
theorem cu.append{b:List R}{x y:List Value}(h:cu w U ρ c x)(d:cu w U ρ b y):cu w U ρ (c++b) (x++y):=by
 refine⟨by simp[h.len,d.len],λj a v e i=>?_⟩;by_cases g:j<M c
 .grind[len,rv]
 grind[len,rv]
variable {x:Nat->AO}{f:fb}{fp:List Nat}
theorem Dx{E:bS}(hE:EnvOk E){n:Nat}{t:TypeId}{q:Nat}{y:List (Nat×R)}{vps:List (Nat×Value)}
  (h:(rO E x n t q y).val=Y f) (hi:y.map (·.1)=vps.map (·.1)) (hr:cu w U ρ (y.map (·.2)) (vps.map (·.2)))
  (x8:∀b,U b->b<w.heap.size) (hn:∀j,j<f.nw.length->ρ (n+j)=Q2):
  ∃v w' U' ρ',(Instr.buildSlice t q vps.toArray).run E.P w=.ok v w'/\Ef n x f w U ρ v w' U' ρ'/\∀id o,(id,o)∈f.wr->id∈fp:=by
 unfold rO at h;split at h
 .rename_i d hu;split at h
  .rename_i e he;split at h
   .rename_i g;simp only[ar,aT,List.isEmpty_iff]at g;have⟨⟨⟨⟨h5,h7⟩,x2⟩,x5⟩,D⟩:=g;split at h
    .rename_i l hl;simp at h;subst h;have x1:ρ n=Q2:=hn 0 sw;have⟨i,z,m,h4,x6,_,hz,a1,x4⟩:=hE.sh d e he;have x3:fL E.P d=Y e.size:=by simp[fL,m,h4]
     have h0:(y.map (·.2)).flatMap ea=[]:=by
      rw[<-D,List.flatMap_map]
     have⟨h1,h2,h3⟩:=uX (w:=w) (U:=U) (ρ:=ρ) (U':=U) (λ_ h=>h) _ _ l hl hr
      (λid H=>by rw[h0]at H;cases H)
     have h8:vps=((vps.map (·.2)).zipIdx 0).map λp=>(p.2,p.1):=by
      have h1:=po y 0 h7;have u:y.map (·.1)=List.range' 0 (M y):=by
       have:=congrArg (List.map (·.1)) h1;rw[hZ]at this;rw[this];have e2:((λa:Nat×R=>a.1)∘λp:R×Nat=>(p.2,p.1))=Prod.snd:=rfl;rw[e2,List.zipIdx_map_snd];simp
      have h9:M y=M vps:=by have:=congrArg M hi;simpa using this
      rw[hi,h9]at u;apply List.ext_getElem
      .simp
      .intro k hk x7;have:(vps.map (·.1))[k]?=(List.range' 0 (M vps))[k]?:=by rw[u]
       grind
     have s:M vps=q:=by rw[<-h5];have:=congrArg M hi;simpa using this.symm
     have⟨r,e1,e2,e3,e4⟩:=vR e.size (vps.map (·.2)) 0 (((Array.range (q*e.size)).map (z.cells[· %z.cells.size]!)).toList)
      (λv hv=>(h2 v hv).1) (by simp[s])
     rw[<-h8]at e1;have h6:q*e.size≠0:=Nat.mul_ne_zero S S;have A:¬(2^24<q*e.size):=by omega
     have x0:M l=q:=by rw[h1];simpa using s
     have hs:w.heap.size<=(w.alloc (.cells r.toArray d)).heap.size:=by rw[ba];omega
     refine⟨.slice (Y ⟨w.heap.size,0,Q2⟩) q q,w.alloc (.cells r.toArray d),λb=>U b\/b=w.heap.size,_,?_,Ef.newVec sw x1 rfl (jt.alloc w _ _) (λb hb _=>bH w _ b hb) ?_ ?_ ?_ ?_,sw⟩
     .simp only[Ou]at e1;simp only[Instr.buildSlice,cw,bm hu,cK x3,ol];simp only[gt_iff_lt,A,zr,h6,ry,ol,cw,zeroValue,typeInfo,run_program,m,hz,e1,newRow,run_newObj];rfl
     .grind[ba]
     .grind
     .refine⟨Y ⟨w.heap.size,0,Q2⟩,q,by simp[iM,x0],by unfold af;grind,.inr ⟨w.heap.size,d,r.toArray,rfl,x2,.inr rfl,ce w _,by simp[e2],S,?_,x4⟩⟩;intro i' F j c hc;have G:i'<(vps.map (·.2)).length:=by rw[<-h1];exact F
      have⟨v,x9,a0⟩:=h3 i' F G j c hc;have hj:j<e.size:=by have:=(cQ.1 hc).1;rwa [zS]at this
      grind[Rv.mono,bH,fa]
     grind[bz]
    .simp at h
   .simp at h
  .simp at h
 .simp at h
theorem JU:∀(l:List Int)(s:ByteArray),l.foldl (λr n=>r.push (UInt8.ofNat n.toNat)) s=⟨s.data++(aL l).toArray⟩:=by
 intro l
 induction l with
 |nil=>intro s;simp[aL]
 |cons n l i=>simp_all[aL]
variable {src dst:TypeId}
theorem kL{el:TypeId}{x:R}(h:(nz P el x).val=Y f)(s:P.underlying src=Y (.slice el))
  (p:P.underlying dst=Y .string) (u:Rv w U ρ x v):
  ∃r x,f={val:=r}/\(convert src dst v).run P w=.ok x w/\Rv w U ρ r x:=by
 unfold nz at h;split at h
 .rename_i l;split at h
  .rename_i t;simp at h;subst h;cases u with
   | sl0 _ a c=>
    refine⟨_,.string ⟨(aL []).toArray⟩,rfl,?_,.str _ (by simp[aL])⟩;rw[run_convert_bytes_string w src dst el a _ _ s t p];cases a with
    |none=>rfl
    | some a=>
     rfl
   | sl _ _ b o c e A q z y d i=>
    have n:∀j(g:j<M l),w.cell? ⟨b,o+j,Q2⟩=Y (.int .u8 l[j]):=by
     intro j g;have k:=d j 0 g (by simp[Sh.size]);have m:=i j g 0 (.int .u8 l[j]) rfl;generalize e j 0=F at k m;cases m with
     |int _ _ D=>
     simpa[Sh.size]using k
    have:=run_bytesToString (P:=P) w ⟨b,o,Q2⟩ (M l) c l (by
     have:=run_loadCells_list (P:=P) w ⟨b,o,Q2⟩ (l.map (Value.int .u8)) (λj v E=>by
      rw[Addr.add_none];grind)
     simpa using this)
    rw[JU]at this;refine⟨_,.string ⟨(aL l).toArray⟩,rfl,?_,.str _ (by simpa[aL]using q)⟩;simp_all[run_convert_bytes_string]
  .simp at h
 .simp at h
theorem JH{p:TypeId}(h:(Bj P x p id).val=Y f)(F:P.underlying src=Y (.slice p))
  (z:P.underlying dst=Y .string) (G:Rv w U ρ (.vec id) v) (s:aW w U ρ id (x id)):
  ∃r d,f={val:=r}/\(convert src dst v).run P w=.ok d w/\Rv w U ρ r d:=by
 cases G with
 |vec _ _ hv h5=>
 unfold Bj at h;split at h
 .rename_i l D;rw[D]at s;have⟨a,c,q,hm,y⟩:=s;rw[hv]at q;cases q;rcases y with⟨rfl,rfl⟩|⟨b,e,h0,rfl,hc,hU,H,h4,E,n,_⟩
  .exact kL (U:=U) (ρ:=ρ) h F z (.sl0 _ a 0)
  .have G:Rv w (λ_=>False) ρ (.sl (.int .u8) l) (.slice (Y ⟨b,0,Q2⟩) (M l) c):=by
    have g:∀i,(k:i<M l)->w.cell? ⟨b,0+i*(Sh.int .u8).size+0,Q2⟩=Y (.int .u8 l[i])/\bq .u8 l[i]:=by
     intro i k;have⟨d,q,u⟩:=n i k 0 (.int .u8 l[i]) rfl;cases u with
     |int _ _ hn=>exact⟨by simpa[World.cell?,H]using q,hn⟩
    refine .sl _ l b 0 c (λi _=>.int .u8 (l.getD i 0)) E hm (dq.1 H).1 (λh=>h) (λi j k A=>?_) (λi k j cc m=>?_)
    .have A:j=0:=by have:j<1:=A;omega
     subst A;show w.cell? _=Y (.int .u8 (l.getD i 0));rw[bf,zQ k];exact(g i k).1
    .match j,m with
     | 0,m=>
      cases m;show Rv w _ ρ (.int .u8 l[i]) (.int .u8 (l.getD i 0));rw[bf,zQ k];exact .int _ _ (g i k).2
   obtain⟨r,d,rfl,u,y⟩:=kL h F z G;refine⟨r,d,rfl,u,?_⟩;have n:∃t,r=.str t:=by
    unfold nz at h;repeat' split at h
    all_goals first
     |(simp at h;done)
     |(simp at h;exact⟨_,h⟩)
     |(cases h;done)
     |(cases h;exact⟨_,rfl⟩)
   obtain⟨t,rfl⟩:=n;cases y;exact .str _ ‹_›
 next l D=>rw[D]at s;have⟨v',o,n⟩:=s;rw[hv]at o;cases o;exact kL h F z n
 .simp at h
theorem EY{E:bS}(hE:zm E){e:Operand->AV}{n:Nat}(h:(pg E e x n o).val=Q1 f)
  (h0:∀D∈o.op.operands.toList,Rv w U ρ (e D) (a.eval D)) (x5:∀b,U b->b<w.heap.size) (j8:lR E.gl w U) (x4:uK w U ρ x fp)
  (x3:gT o.op=true->∀D∈o.op.operands.toList,∀id∈(e D).ids,id∈fp) (j5:rG o.op=true->∀id∈fp,∀j∈(x id).ids,j∈fp) (hn:∀j,j<f.nw.length->ρ (n+j)=Q2):
  (∀(K:Act->World->Prop)(Q:Exit->Act->World->Prop),(∀v w' U' ρ',Ef n x f w U ρ v w' U' ρ'->K (a.put o.dst v) w')->o.wp E.P a w K Q)/\∀id o',(id,o')∈f.wr->id∈fp:=by
 have G:∀(r:R)(D:Value),f={val:=r}->(execOp a.eval o).run E.P w=.ok (.value D) w->Rv w U ρ r D->
   (∀(K:Act->World->Prop)(Q:Exit->Act->World->Prop),(∀v w' U' ρ',Ef n x f w U ρ v w' U' ρ'->K (a.put o.dst v) w')->o.wp E.P a w K Q)/\∀id o',(id,o')∈f.wr->id∈fp:=by
  rintro r D rfl H hr;exact⟨λK Q hK=>ep H (hK _ _ _ _ (Ef.pure x5 hr)),sw⟩
 unfold pg at h;split at h
 case h_1 D ho=>
  simp at h;subst h;exact G _ (a.eval D) rfl (by simp[execOp,ho]) (h0 D (by simp[ho,Op.operands]))
 case h_2 D ho=>
  simp at h;subst h;exact G _ (a.eval D) rfl (by simp[execOp,ho]) (h0 D (by simp[ho,Op.operands]))
 case h_3 c D y ho=>
  have hc:=h0 c (by simp[ho,Op.operands]);have hx:=h0 D (by simp[ho,Op.operands]);have hy:=h0 y (by simp[ho,Op.operands]);generalize i5:a.eval c=vc at hc;split at h
  next a1=>rw[a1]at hc;cases hc;simp at h;subst h;exact G _ (a.eval D) rfl (by simp[execOp,ho,i5,asBool]) hx
  next a1=>rw[a1]at hc;cases hc;simp at h;subst h;exact G _ (a.eval y) rfl (by simp[execOp,ho,i5,asBool]) hy
  next b a1=>rw[a1]at hc;cases hc;simp at h;obtain⟨z,hz,rfl⟩:=h;refine G _ (ite b (a.eval D) (a.eval y)) rfl (by simp[execOp,ho,i5,asBool]) (BX hz ?_);cases b<;>simp[hx,hy]
  .simp at h
 case h_4 t D ho=>
  have hx:=h0 D (by simp[ho,Op.operands]);split at h
  .rename_i cs x7;split at h
   case isFalse=>simp at h
   rename_i hT;simp only[Tr.val_ok,ax]at h;subst h;have⟨h1,h2⟩:=gJ x7 hx;refine⟨λK Q hK=>ep (v:=.pointer (Y ⟨w.heap.size,0,Q2⟩)) (w':=w.alloc (.cells (a.eval D).cells t)) ?_ (hK _ _ _ _ (Ef.box x5 (by simpa using hn 0 sw) h1 h2 hT)),sw⟩;simp[execOp,ho,Instr.box,newVar,newRow]
  .simp at h
 case h_5 t ho=>
  split at h
  .rename_i cs x7;split at h
   case isFalse=>simp at h
   rename_i hT;simp only[Tr.val_ok,ax]at h;subst h;unfold Yy at x7;split at x7
   .rename_i i i0;have hz:∃zv,i.zero=Y zv/\cu w U ρ cs zv.cells.toList/\∀v∈zv.cells.toList,v.oneCell'=true:=by
     cases a7:i.zero with
     |none=>rw[a7]at x7;cases x7
     | some zv=>
      by_cases hm:zv=.map Q2
      .subst hm;rw[a7]at x7;cases x7;refine⟨_,rfl,⟨rfl,λi r v hr hv=>?_⟩,λv hv=>?_⟩
       .cases i with
        |zero=>cases hr;exact .any _
        |succ i=>simp at hr
       have:v=Value.map Q2:=by simpa[Value.cells]using hv
       subst this;rfl
      grind[gJ,pW]
    have⟨zv,a7,h1,h2⟩:=hz;refine⟨λK Q hK=>ep (v:=.pointer (Y ⟨w.heap.size,0,Q2⟩)) (w':=w.alloc (.cells zv.cells t)) ?_ (hK _ _ _ _ (Ef.box x5 (by simpa using hn 0 sw) h1 h2 hT)),sw⟩;simp[execOp,ho,Instr.alloc,zeroValue,typeInfo,i0,a7,newVar,newRow]
   .cases x7
  .simp at h
 case h_6 t D ho=>
  have hx:=h0 D (by simp[ho,Op.operands]);obtain⟨r,v,rfl,H,hr⟩:=EX h hx (λid h5=>x4.ob id (x3 (by simp[ho,gT]) D (by simp[ho,Op.operands]) id h5));exact G r v rfl (by simp[execOp,ho,H]) hr
 case h_7 t D y ho=>
  have hx:=h0 D (by simp[ho,Op.operands]);have hy:=h0 y (by simp[ho,Op.operands])
  have⟨w',U',H,h9,h8⟩:=MN (n:=n) h hx hy x5 x4 (λid h5=>x3 (by simp[ho,gT]) D (by simp[ho,Op.operands]) id h5)
   (λid h5=>x3 (by simp[ho,gT]) y (by simp[ho,Op.operands]) id (pB h5))
  exact⟨λK Q hK=>pS (by simp[execOp,ho,H]) (hK _ _ _ _ h9),h8⟩
 case h_8 t D fl ho=>
  have hx:=h0 D (by simp[ho,Op.operands]);obtain⟨r,v,rfl,H,hr⟩:=ML h hx;exact G r v rfl (by simp[execOp,ho,H]) hr
 case h_9 t D fl ho=>
  have hx:=h0 D (by simp[ho,Op.operands]);split at h
  .rename_i fd cs a4 x7;simp at h;obtain⟨r,hr,rfl⟩:=h;rw[x7]at hx;generalize x2:a.eval D=vx at hx;cases hx with
   |agg _ vs hl h1 i3=>
   have⟨v,H,a2⟩:=Ch hr hl h1 i3;unfold yz at a4;split at a4
   next fs hu=>exact G r v rfl (by simp[execOp,ho,x2,Instr.field,bm hu,a4,asAgg,H]) a2
   .cases a4
  .simp at h
 case h_10 t D i ho=>
  have hx:=h0 D (by simp[ho,Op.operands]);have hi:=h0 i (by simp[ho,Op.operands]);obtain⟨r,v,rfl,H,hr⟩:=Bl h hx hi (λid h5=>x4.ob id (x3 (by simp[ho,gT]) D (by simp[ho,Op.operands]) id h5));exact G r v rfl (by simp[execOp,ho,H]) hr
 case h_11 t D i ho=>
  have hx:=h0 D (by simp[ho,Op.operands]);have hi:=h0 i (by simp[ho,Op.operands]);obtain⟨r,v,rfl,H,hr⟩:=MM h hx hi;exact G r v rfl (by simp[execOp,ho,H]) hr
 case h_12 t h6 ho=>
  simp at h;obtain⟨r,hr,rfl⟩:=h;have j0:∀p∈h6.toList,Rv w U ρ (e p.2) (a.eval p.2):=λp x=>h0 p.2 (by simp only[ho,Op.operands];grind)
  have⟨v,H,a2⟩:=Rg (w:=w) (U:=U) (ρ:=ρ) (vparts:=h6.toList.map λp=>(p.1,a.eval p.2)) hr sw (by
   have:=qA (w:=w) (U:=U) (ρ:=ρ) (ev:=e) (g:=a.eval) (h6.toList.map (·.2)) (λD hx=>by
    grind)
   simpa[hZ,wY]using this)
  refine G r v rfl ?_ a2;have e1:(h6.toList.map λp=>(p.1,a.eval p.2)).toArray=h6.map λp=>(p.1,a.eval p.2):=by
   apply fG;simp
  rw[e1]at H;simp[execOp,ho,H]
 case h_13 t k5 h6 ho=>
  have j0:∀p∈h6.toList,Rv w U ρ (e p.2) (a.eval p.2):=λp x=>h0 p.2 (by simp only[ho,Op.operands];grind)
  have j1:cu w U ρ ((h6.toList.map λp=>(p.1,e p.2)).map (·.2)) ((h6.toList.map λp=>(p.1,a.eval p.2)).map (·.2)):=by
   have:=qA (w:=w) (U:=U) (ρ:=ρ) (ev:=e) (g:=a.eval) (h6.toList.map (·.2)) (λD hx=>by
    grind)
   simpa[hZ,wY]using this
  have e1:(h6.toList.map λp=>(p.1,a.eval p.2)).toArray=h6.map λp=>(p.1,a.eval p.2):=by
   apply fG;simp
  split at h
  .have⟨v,w',U',ρ',H,h9,h8⟩:=Dx hE.toEnvOk (fp:=fp) (n:=n) (w:=w) (U:=U) (ρ:=ρ) (vps:=h6.toList.map λp=>(p.1,a.eval p.2)) h sw j1 x5 hn;refine⟨λK Q hK=>ep ?_ (hK _ _ _ _ h9),h8⟩;rw[e1]at H;simp[execOp,ho,H]
  .have⟨v,w',U',H,h9,h8⟩:=ye hE.toEnvOk (n:=n) (w:=w) (U:=U) (ρ:=ρ) (vps:=h6.toList.map λp=>(p.1,a.eval p.2)) h sw j1 x5 x4 (λid h5=>by
    simp only[D2,aN]at h5;obtain⟨q,⟨p,x,rfl⟩,h5⟩:=h5;exact x3 (by simp[ho,gT]) p.2 (by simp only[ho,Op.operands];grind) id (pB h5))
   refine⟨λK Q hK=>ep ?_ (hK _ _ _ _ h9),h8⟩;rw[e1]at H;simp[execOp,ho,H]
 case h_14 op t D y yt ho=>
  have hx:=h0 D (by simp[ho,Op.operands]);have hy:=h0 y (by simp[ho,Op.operands]);obtain⟨r,v,rfl,H,hr⟩:=ZC D y h hx hy;refine G r v rfl ?_ hr;simp only[execOp,ho];rw[cw,H];rfl
 case h_15 t D ho=>
  have hx:=h0 D (by simp[ho,Op.operands]);generalize x2:a.eval D=vx at hx;split at h
  next b hb=>rw[hb]at hx;cases hx;simp at h;subst h;exact G _ (.bool (!b)) rfl (by simp[execOp,ho,x2,Op.unary]) (.bool _)
  next b hb=>rw[hb]at hx;cases hx;simp at h;subst h;exact G _ (.bool (!b)) rfl (by simp[execOp,ho,x2,Op.unary]) (.kb _)
  .simp at h
 case h_16 t D ho=>
  have hx:=h0 D (by simp[ho,Op.operands]);generalize x2:a.eval D=vx at hx;split at h
  next k b hb=>rw[hb]at hx;cases hx;simp at h;subst h;exact G _ (.int k (k.wrap (-b))) rfl (by simp[execOp,ho,x2,Op.unary,Op.intArith]) (.int _ _ (iE _ _))
  .simp at h
 case h_17 j2 i6 D ho=>
  have hx:=h0 D (by simp[ho,Op.operands]);generalize x2:a.eval D=vx at hx;split at h
  next d k k' b hs hu hb=>rw[hb]at hx;cases hx;simp at h;subst h;exact G _ (.int k (k.wrap b)) rfl (by simp[execOp,ho,x2,convert,bm hs,bm hu,Conv.intToInt]) (.int _ _ (iE _ _))
  next d s hs hu hb=>rw[hb]at hx;have hh:=hx;cases hx;simp at h;subst h;exact G _ _ rfl (by simp[execOp,ho,x2,convert,bm hs,bm hu]) hh
  next el A l hs hu hb=>rw[hb]at hx;obtain⟨r,v,rfl,H,hr⟩:=kL (src:=j2) (dst:=i6) h hs hu hx;exact G r v rfl (by simp[execOp,ho,x2,H]) hr
  next el id hs hu hb=>rw[hb]at hx;obtain⟨r,v,rfl,H,hr⟩:=JH (src:=j2) (dst:=i6) h hs hu hx (x4.ob id (x3 (by simp[ho,gT]) D (by simp[ho,Op.operands]) id (by simp[hb,AV.ids])));exact G r v rfl (by simp[execOp,ho,x2,H]) hr
  .simp at h
 case h_18 t D lo hi mx ho=>
  have hx:=h0 D (by simp[ho,Op.operands])
  have⟨v,U',H,h9,h8⟩:=JK (n:=n) (fp:=fp) (w:=w) (U:=U) (ρ:=ρ) (vlo:=lo.map a.eval) (vhi:=hi.map a.eval) (vmx:=mx.map a.eval) h hx
   (λb v hb hv=>by cases lo<;>simp at hb hv;subst hb;subst hv;exact h0 _ (by simp[ho,Op.operands]))
   (λb v hb hv=>by cases hi<;>simp at hb hv;subst hb;subst hv;exact h0 _ (by simp[ho,Op.operands]))
   (λb v hb hv=>by cases mx<;>simp at hb hv;subst hb;subst hv;exact h0 _ (by simp[ho,Op.operands])) (by cases lo<;>rfl) (by cases hi<;>rfl) (by cases mx<;>rfl) x5 x4 (λid h5=>x3 (by simp[ho,gT]) D (by simp[ho,Op.operands]) id h5)
  exact⟨λK Q hK=>ep (by simp[execOp,ho,H]) (hK _ _ _ _ h9),h8⟩
 case h_19 D i ho=>
  have hx:=h0 D (by simp[ho,Op.operands]);generalize x2:a.eval D=vx at hx;split at h
  .rename_i vs k2;rw[k2]at hx;simp at h;obtain⟨r,hr,rfl⟩:=h;cases hx with
   |tup _ xs hl i3=>
   have i9:i<M xs:=by rw[<-hl];exact(cQ.1 hr).1
   exact G r xs[i] rfl (by simp[execOp,ho,x2,Instr.extract,zQ i9]) (i3 i r _ hr (zQ i9))
  .simp at h
 case h_20 fn first x9 ho=>
  simp at h;subst h;refine G _ (.func fn (first.toList.map a.eval).toArray (x9.toList.map a.eval).toArray) rfl (by simp[execOp,ho,Instr.makeFunc];grind) ?_;have h1:=qA (w:=w) (U:=U) (ρ:=ρ) (ev:=e) (g:=a.eval) first.toList (λD hx=>h0 D (by simp[ho,Op.operands];exact .inl (by simpa using hx)))
  have h2:=qA (w:=w) (U:=U) (ρ:=ρ) (ev:=e) (g:=a.eval) x9.toList (λD hx=>h0 D (by simp[ho,Op.operands];exact .inr (by simpa using hx)));exact .clo fn _ _ _ _ h1.len h2.len h1.rv h2.rv
 case h_21 D ho=>
  have hx:=h0 D (by simp[ho,Op.operands]);have k4:=hx;generalize x2:a.eval D=vx at hx;split at h
  next i j x8=>rw[x8]at hx;simp at h;subst h;have hh:=hx;cases hx;exact G _ _ rfl (by simp[execOp,ho,x2]) hh
  next cs j x8=>rw[x8]at hx;simp at h;subst h;have hh:=hx;cases hx;exact G _ _ rfl (by simp[execOp,ho,x2]) hh
  next i j k l x8=>rw[x8]at hx;simp at h;subst h;have hh:=hx;cases hx;exact G _ _ rfl (by simp[execOp,ho,x2]) hh
  .rename_i g as bs x8;rw[x8]at hx;simp at h;subst h;have hh:=hx;cases hx;exact G _ _ rfl (by simp[execOp,ho,x2]) hh
  .simp at h
 case h_22 c ho=>
  have hm:gT o.op=true:=by simp[ho,gT]
  have h7:∀D∈c.args.toList,D∈o.op.operands.toList:=by
   intro D hx;simp only[ho,Op.operands,Call.operands,Array.toList_append,bX];exact .inr hx
  have a2:=qA (w:=w) (U:=U) (ρ:=ρ) (ev:=e) (g:=a.eval) c.args.toList (λD hx=>h0 D (h7 D hx));unfold VA at h;split at h
  .rename_i fo x6;have j7:fo∈o.op.operands.toList:=by simp[ho,Op.operands,Call.operands,x6]
   have hf:=h0 fo j7;generalize k1:a.eval fo=vf at hf;split at h
   next k first x9 hcl0=>
    split at h
    .rename_i F hF;have a8:=hE.fs k F hF;rw[hcl0]at hf;cases hf with
     |clo _ _ _ j4 j3 h1 h2 h3 h4=>
     have i8:cu w U ρ (first++c.args.toList.map e++x9) (j4++c.args.toList.map a.eval++j3):=(cu.append ⟨h1,h3⟩ a2).append ⟨h2,h4⟩;have⟨a3,h8⟩:=a8.calls w U ρ x n _ _ f fp h i8 x5 j8 x4 (λid h5=>by
      grind[Pp,AV.ids,jm]) (j5 (by simp[ho,rG])) hn
     refine⟨λK Q hK=>?_,h8⟩;have⟨fn,j6,i1,a9⟩:=a8.fn;have H:(execOp a.eval o).run E.P w=.ok (.enter k (j4++c.args.toList.map a.eval++j3).toArray) w:=by
      simp only[execOp,ho,resolve,x6,k1,Deferred.ofValue,cw,ry,ol,invoke,callFunc,run_program,j6,i1,a9,zO,zr];congr 2;apply fG;simp
     rw[Oper.wp,H];refine a3.mono λA w' ⟨v,U',ρ',he,h9⟩=>?_
     grind
    .simp at h
   .simp at h
  .rename_i x6;split at h
   .rename_i D t x0 a0;have hc:c.args.toList.length=1:=by have:=congrArg M x0;simpa using this
    obtain⟨xo,a6⟩:∃xo,c.args.toList=[xo]:=List.length_eq_one_iff.1 hc;rw[a6]at x0;simp at x0;subst x0;obtain⟨r,v,rfl,H,hr⟩:=VC (P:=E.P) (w:=w) (U:=U) (ρ:=ρ) (ty:=o.type) h (h0 xo (h7 xo (by simp[a6]))) (λid h5=>x4.ob id (x3 hm xo (h7 xo (by simp[a6])) id h5));refine G r v rfl ?_ hr;have e1:c.args=#[xo]:=by apply fG;simpa using a6
    have e2:c.argTypes=#[t]:=by apply fG;simpa using a0
    simp[execOp,ho,resolve,x6,invoke,builtin,e1,e2,H]
   .simp at h
  .rename_i x6;split at h
   .rename_i b D t t' x0 a0;split at h
    .rename_i i7 k3 hu i4;have hc:c.args.toList.length=2:=by have:=congrArg M x0;simpa using this
     obtain⟨bo,xo,x1⟩:∃bo xo,c.args.toList=[bo,xo]:=by
      match hl:c.args.toList,hc with
      |[p,q],_=>exact⟨p,q,rfl⟩
     rw[x1]at x0;simp at x0;obtain⟨rfl,rfl⟩:=x0;have i2:ρ n=Q2:=by
      have h1:f.nw.length=1:=by
       clear hn;unfold ij at h;repeat' split at h
       all_goals first
        |(simp at h;done)
        |(simp at h;obtain⟨_,rfl⟩:=h;rfl)
      simpa using hn 0 S
     have⟨v,w',U',ρ',H,h9,h8⟩:=xp hE.toEnvOk (w:=w) (U:=U) (ρ:=ρ) (t:=t) (t':=t') (ty:=o.type) h hu i4 (h0 bo (h7 bo (by simp[x1]))) (h0 xo (h7 xo (by simp[x1]))) x5 x4
      (λid h5=>x3 hm bo (h7 bo (by simp[x1])) id h5) (λid h5=>x3 hm xo (h7 xo (by simp[x1])) id h5) i2
     refine⟨λK Q hK=>ep ?_ (hK _ _ _ _ h9),h8⟩;have e1:c.args=#[bo,xo]:=by apply fG;simpa using x1
     have e2:c.argTypes=#[t,t']:=by apply fG;simpa using a0
     simp[execOp,ho,resolve,x6,invoke,builtin,e1,e2,H]
    .rename_i i7 hu i4;have hc:c.args.toList.length=2:=by have:=congrArg M x0;simpa using this
     obtain⟨bo,xo,x1⟩:∃bo xo,c.args.toList=[bo,xo]:=by
      match hl:c.args.toList,hc with
      |[p,q],_=>exact⟨p,q,rfl⟩
     rw[x1]at x0;simp at x0;obtain⟨rfl,rfl⟩:=x0;have i2:ρ n=Q2:=by
      have h1:f.nw.length=1:=by
       clear hn;unfold Gz ij at h;repeat' split at h
       all_goals first
        |(simp at h;done)
        |(simp at h;obtain⟨_,rfl⟩:=h;rfl)
      simpa using hn 0 S
     have⟨v,w',U',ρ',H,h9,h8⟩:=R8 hE.toEnvOk (w:=w) (U:=U) (ρ:=ρ) (t:=t) (t':=t') (ty:=o.type) h hu i4 (h0 bo (h7 bo (by simp[x1]))) (h0 xo (h7 xo (by simp[x1]))) x5 x4
      (λid h5=>x3 hm bo (h7 bo (by simp[x1])) id h5) i2
     refine⟨λK Q hK=>ep ?_ (hK _ _ _ _ h9),h8⟩;have e1:c.args=#[bo,xo]:=by apply fG;simpa using x1
     have e2:c.argTypes=#[t,t']:=by apply fG;simpa using a0
     simp[execOp,ho,resolve,x6,invoke,builtin,e1,e2,H]
    .simp at h
   .simp at h
  .rename_i x6;split at h
   .rename_i m k t t' x0 a0;have hc:c.args.toList.length=2:=by have:=congrArg M x0;simpa using this
    obtain⟨mo,ko,x1⟩:∃bo xo,c.args.toList=[bo,xo]:=by
     match hl:c.args.toList,hc with
     |[p,q],_=>exact⟨p,q,rfl⟩
    rw[x1]at x0;simp at x0;obtain⟨rfl,rfl⟩:=x0;have⟨w',H,h9,h8⟩:=JI (kt:=t') (ty:=o.type) (n:=n) h (h0 mo (h7 mo (by simp[x1]))) (h0 ko (h7 ko (by simp[x1]))) x5 x4 (λid h5=>x3 hm mo (h7 mo (by simp[x1])) id h5);refine⟨λK Q hK=>ep ?_ (hK _ _ _ _ h9),h8⟩;have e1:c.args=#[mo,ko]:=by apply fG;simpa using x1
    have e2:c.argTypes=#[t,t']:=by apply fG;simpa using a0
    simp[execOp,ho,resolve,x6,invoke,builtin,e1,e2,H]
   .simp at h
  .simp at h
 case h_23 t ho=>
  split at h
  .rename_i o0 a5;simp at h;subst h;have j9:o0=.fmap []\/(∃u,o0=.vmap u [])\/∃A,o0=.gmap A []:=by
    unfold WF at a5;repeat' split at a5
    all_goals first
     |(rw[dG]at a5;obtain⟨A,_,rfl⟩:=a5;exact .inr (.inr ⟨A,rfl⟩))
     |simp_all
   refine⟨λK Q hK=>ep (v:=.map (Y w.heap.size)) (w':=w.alloc (.map #[] 0)) ?_ (hK _ _ _ _ (Ef.mkMap j9 x5 (by simpa using hn 0 sw))),sw⟩;simp[execOp,ho,Instr.makeMap,newObj];rfl
  .simp at h
 case h_24 t m k D ho=>
  have⟨w',H,h9,h8⟩:=xq (n:=n) h (h0 m (by simp[ho,Op.operands])) (h0 k (by simp[ho,Op.operands])) (h0 D (by simp[ho,Op.operands])) x5 x4 (λid h5=>x3 (by simp[ho,gT]) m (by simp[ho,Op.operands]) id h5);exact⟨λK Q hK=>pS (by simp[execOp,ho,H]) (hK _ _ _ _ h9),h8⟩
 case h_25 t m k D ho=>
  have⟨w',H,h9,h8⟩:=xq (n:=n) h (h0 m (by simp[ho,Op.operands])) (h0 k (by simp[ho,Op.operands])) (h0 D (by simp[ho,Op.operands])) x5 x4 (λid h5=>x3 (by simp[ho,gT]) m (by simp[ho,Op.operands]) id h5);exact⟨λK Q hK=>pS (by simp[execOp,ho,H]) (hK _ _ _ _ h9),h8⟩
 case h_26 t D i two ho=>
  obtain⟨r,v,rfl,H,hr⟩:=JJ h (h0 D (by simp[ho,Op.operands])) (h0 i (by simp[ho,Op.operands])) (λid h5=>x4.ob id (x3 (by simp[ho,gT]) D (by simp[ho,Op.operands]) id h5));exact G r v rfl (by simp[execOp,ho,H]) hr
 case h_27 t m k ho=>
  have⟨v,w',H,h9,h8⟩:=MK (n:=n) h (h0 m (by simp[ho,Op.operands])) (h0 k (by simp[ho,Op.operands])) x5 x4 (λid h5=>x3 (by simp[ho,gT]) m (by simp[ho,Op.operands]) id h5);exact⟨λK Q hK=>ep (by simp[execOp,ho,H]) (hK _ _ _ _ h9),h8⟩
 case h_28 t m s D ho=>
  have⟨w',H,h9,h8⟩:=yf (P:=E.P) (t:=t) (n:=n) h (h0 m (by simp[ho,Op.operands])) (h0 s (by simp[ho,Op.operands])) (h0 D (by simp[ho,Op.operands])) x5 x4 (λid h5=>x3 (by simp[ho,gT]) m (by simp[ho,Op.operands]) id h5);exact⟨λK Q hK=>pS (by simp[execOp,ho,H]) (hK _ _ _ _ h9),h8⟩
 case h_29=>simp at h
end
structure eS where
 w0:World
 U0:Nat->Prop
 B0:Nat->Prop
 ρ0:Nat->Option Value
structure Wd (gl:Nat->R) (C:eS) (w:World) (U:Nat->Prop):Prop where
 ext:jt C.w0 w
 same:∀b,b<C.w0.heap.size->¬C.B0 b->w.heap[b]?=C.w0.heap[b]?
 ub:∀b,U b->b<w.heap.size
 u1:∀b,b<C.w0.heap.size->U b->C.U0 b
 u2:∀b,b<C.w0.heap.size->C.U0 b->¬C.B0 b->U b
 gl:lR gl w U
structure fE (C:eS) (w:World) (U:Nat->Prop) (ρ:Nat->Option Value) (hp:Nat->AO):Prop where
 ob:∀id,aW w U ρ id (hp id)
 inj:∀id1 id2 b,zY ρ id1 (hp id1) b->zY ρ id2 (hp id2) b->id1=id2
 blk:∀id b,zY ρ id (hp id) b->C.B0 b\/C.w0.heap.size<=b
section
variable {gl:Nat->R} {C:eS} {w:World} {U:Nat->Prop} {ρ:Nat->Option Value}
variable {n:Nat}{x:Nat->AO}{v:Value}
theorem Au{hp hp':Nat->AO}{f:fb}{w':World}{U':Nat->Prop}{ρ':Nat->Option Value}(hW:Wd gl C w U)(P:fE C w U ρ hp)(d:Ef n x f w U ρ v w' U' ρ')
  (G:∀id o,(id,o)∈f.wr->x id=hp id)
  (h1:∀id,(∃o,(id,o)∈f.wr)->∃o,(id,o)∈f.wr/\hp' id=o) (h2:∀(j:Nat) o,f.nw[j]?=Y o->hp' (n+j)=o)
  (h3:∀id,(¬∃o,(id,o)∈f.wr)->(id<n\/n+f.nw.length<=id)->hp' id=hp id):
  Wd gl C w' U'/\fE C w' U' ρ' hp'/\∀{c:R}{a:Value},Rv w U ρ c a->Rv w' U' ρ' c a:=by
 have h7:∀id o b,(id,o)∈f.wr->zY ρ id (x id) b->U b/\b<w.heap.size:=by
  intro id o b p y;rw[G id o p]at y;exact(P.ob id).inU y
 have hk:∀b,b<w.heap.size->¬U b->w'.heap[b]?=w.heap[b]?:=λb D hU=>d.same b D (λid o p y=>hU (h7 id o b p y).1)
 have x1:∀{c:R}{a:Value},Rv w U ρ c a->Rv w' U' ρ' c a:=λh=>h.mono d.ext.sz hk d.u1 d.rhon
 have H:∀id,(∃o,(id,o)∈f.wr/\hp' id=o)\/(n<=id/\∃o,f.nw[id-n]?=Y o/\hp' id=o)\/((¬∃o,(id,o)∈f.wr)/\(id<n\/n+f.nw.length<=id)/\hp' id=hp id):=by
  intro id;by_cases hw:∃o,(id,o)∈f.wr
  .exact .inl (h1 id hw)
  .grind
 have h0:∀id,(¬∃o,(id,o)∈f.wr)->∀b,zY ρ id (hp id) b->b<w.heap.size/\∀q o',(q,o')∈f.wr->¬zY ρ q (x q) b:=by
  intro id hw b y;refine⟨((P.ob id).inU y).2,λq o' z A=>?_⟩;rw[G q o' z]at A;have:=P.inj id q b y A;subst this;exact hw ⟨o',z⟩
 have m:∀id,(id<n\/n+f.nw.length<=id)->∀o b,zY ρ' id o b->zY ρ id o b:=by
  rintro id p o b ⟨h,v,hv,D⟩;rw[d.rho id p]at hv;exact⟨h,v,hv,D⟩
 have t:∀id b,((∃o,(id,o)∈f.wr/\hp' id=o)\/(n<=id/\∃o,f.nw[id-n]?=Y o/\hp' id=o))->zY ρ' id (hp' id) b->
   w.heap.size<=b\/∃q o',(q,o')∈f.wr/\zY ρ q (hp q) b:=by
  intro id b p y;have x3:((id,hp' id)∈f.wr\/(n<=id/\f.nw[id-n]?=Y (hp' id))):=by
   rcases p with⟨o,h,rfl⟩|⟨h,o,h',rfl⟩
   .exact .inl h
   .exact .inr ⟨h,h'⟩
  rcases d.own id _ b x3 y with h|⟨q,o',z,A⟩
  .exact .inl h
  .grind
 refine⟨⟨hW.ext.trans d.ext,?_,d.ub,?_,?_,?_⟩,⟨?_,?_,?_⟩,x1⟩
 .intro b D hB;rw[d.same b (cM D hW.ext.sz) (λid o p y=>?_)]
  .exact hW.same b D hB
  .rw[G id o p]at y;rcases P.blk id b y with h|h
   .exact hB h
   .omega
 .intro b D hU;exact hW.u1 b D (d.u1 b (cM D hW.ext.sz) hU)
 .intro b D hU hB;refine d.u2 b (cM D hW.ext.sz) (hW.u2 b D hU hB) (λid o p y=>?_);rw[G id o p]at y;rcases P.blk id b y with h|h
  .exact hB h
  .omega
 .intro g;exact(hW.gl g).mono d.ext.sz hk d.u1 (λ_ _ h=>by cases h)
 .intro id;rcases H id with⟨o,h,e⟩|⟨h,o,h',e⟩|⟨hw,p,e⟩
  .rw[e];exact d.wr id o h
  .rw[e];have:=d.nw (id-n) o h';simp_all
  .rw[e];refine(P.ob id).mono d.ext.sz hk d.u1 d.rhon (λb y=>?_);have⟨D,h6⟩:=h0 id hw b y;exact⟨d.same b D h6,d.u2 b D ((P.ob id).inU y).1 h6⟩
 .intro l i b u s;have k1:=H l;have k2:=H i
  have x2:∀l i,((∃o,(l,o)∈f.wr/\hp' l=o)\/(n<=l/\∃o,f.nw[l-n]?=Y o/\hp' l=o))->
    ((¬∃o,(i,o)∈f.wr)/\(i<n\/n+f.nw.length<=i)/\hp' i=hp i)->zY ρ' l (hp' l) b->zY ρ' i (hp' i) b->False:=by
   intro l i k1 ⟨hw,p,e⟩ u s;rw[e]at s;have x0:=m i p _ b s;have⟨D,h6⟩:=h0 i hw b x0;rcases t l b k1 u with h|⟨q,o',z,A⟩
   .omega
   .grind
  rcases k1 with k1|k1|k1<;>rcases k2 with k2|k2|k2
  .have⟨o1,E,e1⟩:=k1;have⟨o2,F,e2⟩:=k2
   rw[e1]at u;rw[e2]at s;exact d.inj l o1 i o2 b (.inl E) (.inl F) u s
  .have⟨o1,E,e1⟩:=k1;have⟨h5,o2,F,e2⟩:=k2
   rw[e1]at u;rw[e2]at s;exact d.inj l o1 i o2 b (.inl E) (.inr ⟨h5,F⟩) u s
  .grind
  .have⟨h4,o1,E,e1⟩:=k1;have⟨o2,F,e2⟩:=k2
   rw[e1]at u;rw[e2]at s;exact d.inj l o1 i o2 b (.inr ⟨h4,E⟩) (.inl F) u s
  .have⟨h4,o1,E,e1⟩:=k1;have⟨h5,o2,F,e2⟩:=k2
   rw[e1]at u;rw[e2]at s;exact d.inj l o1 i o2 b (.inr ⟨h4,E⟩) (.inr ⟨h5,F⟩) u s
  .grind
  .grind
  .grind
  .have⟨_,h8,e1⟩:=k1;have⟨_,h9,e2⟩:=k2
   rw[e1]at u;rw[e2]at s;exact P.inj l i b (m l h8 _ b u) (m i h9 _ b s)
 .intro id b y;rcases H id with k|k|⟨_,p,e⟩
  .rcases t id b (.inl k) y with h|⟨q,o',z,A⟩
   .exact .inr (aB hW.ext.sz h)
   .exact P.blk q b A
  .rcases t id b (.inr k) y with h|⟨q,o',z,A⟩
   .exact .inr (aB hW.ext.sz h)
   .exact P.blk q b A
  .rw[e]at y;exact P.blk id b (m id p _ b y)
structure wO (C:eS) (st:RS) (a:Act) (w:World) (U:Nat->Prop) (ρ:Nat->Option Value):Prop where
 tm:cu w U ρ st.tmps a.tmps.toList
 hp:fE C w U ρ st.hp
 new:∀id,st.heap.length<=id->ρ id=Q2
 kn:∀d b,st.known.lookup d=Y b->a.tmps[d]?=Y (.bool b)
 df:a.defers=[]
 r0:∀id v,C.ρ0 id=Y v->ρ id=Y v
variable {E:bS}{tmps:List R}{known:List (Nat×Bool)}{a:Act}
theorem GG(e:cu w U ρ tmps a.tmps.toList)(j:∀d b,known.lookup d=Y b->a.tmps[d]?=Y (.bool b))(i:lR E.gl w U)(x:Operand):
  Rv w U ρ (uI E tmps known x) (a.eval x):=by
 cases x with
 | tmp t=>
  simp only[uI,Act.eval];cases m:known.lookup t with
  | some b=>
   have:=j t b m;simp only[oD,this,cD];exact .kb b
  | none=>
   by_cases k:t<M tmps
   .have c:t<a.tmps.toList.length:=by rw[<-e.len];exact k
    have l:a.tmps.getD t undef=a.tmps.toList[t]:=by
     simp only[Array.length_toList]at c;simp[Array.getD,c]
    rw[l];exact e.rv t _ _ (by simp_all) (zQ c)
   .rw[bf,eA (Nat.le_of_not_lt k)];exact .any _
 |const v=>exact pW v
 |global g=>exact(i g).mono (zK _) (λ_ _ _=>rfl) (λ_ _ h=>h) (λ_ _ h=>by cases h)
 |func f=>simp only[uI,Act.eval];exact .clo (.func f) [] [] [] [] rfl rfl sw sw
theorem bW:∀(wr:List (Nat×AO))(h:List AO),(mX h wr).length=M h
 |[],_=>rfl
 |(i,o)::r,h=>by simp[mX,bW r]
theorem qN:∀(wr:List (Nat×AO))(h:List AO)(id:Nat),(¬∃o,(id,o)∈wr)->(mX h wr).getD id .dead=h.getD id .dead
 |[],_,_,_=>rfl
 | (i,o)::r,h,id,hn=>by
  rw[mX,qN r _ id (λ⟨a,x⟩=>hn ⟨a,by simp[x]⟩)];grind
theorem qO:∀(wr:List (Nat×AO))(h:List AO)(id:Nat),(∀p∈wr,p.1<M h)->(∃o,(id,o)∈wr)->∃o,(id,o)∈wr/\(mX h wr).getD id .dead=o
 |[],_,_,_,⟨_,h⟩=>by simp at h
 | (i,o)::r,h,id,hl,hex=>by
  by_cases b:∃o,(id,o)∈r
  .have⟨a,c,d⟩:=qO r (h.set i o) id (λp e=>by grind) b;exact⟨a,by simp[c],d⟩
  .have⟨a,x⟩:=hex;simp only[bD,cz]at x;rcases x with⟨rfl,rfl⟩|x
   .refine⟨a,sw,?_⟩;rw[mX,qN r _ _ b];simp_all
   .exact(b ⟨a,x⟩).elim
theorem lN{d:Option Tmp}{j:R}(h:cu w U ρ tmps a.tmps.toList)(k:Rv w U ρ j v):cu w U ρ (lu tmps d j) (a.put d v).tmps.toList:=by
 cases d with
 |none=>exact h
 | some d=>
  simp only[lu,Act.put];refine⟨by simp[h.len],λx e i c b=>?_⟩;simp only[Array.toList_setIfInBounds]at b;by_cases g:d=x
  .grind
  .rw[wW g]at c b;exact h.rv x e i c b
theorem E9{i:Option Tmp}(h:∀i b,known.lookup i=Y b->a.tmps[i]?=Y (.bool b)):
  ∀d b,(rR known i).lookup d=Y b->(a.put i v).tmps[d]?=Y (.bool b):=by
 intro d b x;cases i with
 |none=>exact h d b x
 | some i=>
  simp only[rR]at x;have c:∀(k:List (Nat×Bool)),(k.filter λp=>p.1!=i).lookup d=Y b->d≠i/\k.lookup d=Y b:=by
   intro k
   induction k with
   |nil=>simp
   | cons p k j=>
    grind
  have⟨e,g⟩:=c known x;simp only[Act.put];grind
variable {o:Oper}
theorem By{e:Operand->R}(h:JV x e o=true):
  (gT o.op=true->∀a∈o.op.operands.toList,∀id∈(e a).ids,id∈tt x e o)/\(rG o.op=true->∀id∈tt x e o,∀j∈(x id).ids,j∈tt x e o):=by
 unfold JV at h;constructor
 .intro b a g id hid;simp only[b,gv,Bool.false_or,ar,dg,D0]at h;exact h.1 id (jm (List.mem_map_of_mem g) hid)
 .intro b id hid j hj;have c:gT o.op=true:=by
   cases d:o.op<;>rw[d]at b<;>simp_all[rG,gT]
  grind
variable {s:RS}
theorem yE(hE:zm E){u:RS}(h:(DB E o s).val=Y u)(e:wO C s a w U ρ)(l:Wd E.gl C w U)
  (K:Act->World->Prop) (Q:Exit->Act->World->Prop) (hK:∀a' n k ρ',wO C u a' n k ρ'->Wd E.gl C n k->K a' n):o.wp E.P a w K Q:=by
 unfold DB at h;split at h
 .rename_i A;simp only[Tr.val_bind,fV]at h;have⟨f,hf,h⟩:=h;split at h
  .rename_i g;simp at h;subst h;have⟨D,y⟩:=By A;have hn:∀j,j<f.nw.length->ρ (s.heap.length+j)=Q2:=λj _=>e.new _ S
   have⟨G,h4⟩:=EY hE (w:=w) (U:=U) (ρ:=ρ) (a:=a) (fp:=tt s.hp (uI E s.tmps s.known) o) hf (λx _=>GG e.tm e.kn l.gl x) l.ub l.gl
    ⟨λid _=>e.hp.ob id,λH _ h0 _ b=>e.hp.inj H h0 b⟩ D y hn
   refine G K Q (λv n k ρ' i=>?_);simp only[dg,ar,aT]at g
   replace g:∀p∈f.wr,p.1<s.heap.length:=λp hp=>(g p hp).1
   have h3:=qO f.wr s.heap
   have⟨t,q,m⟩:=Au (hp':=λid=>(mX s.heap f.wr++f.nw).getD id .dead) l e.hp i (λ_ _ _=>rfl)
    (λid z=>by
     have⟨o',h1,h2⟩:=qO f.wr s.heap id g z;refine⟨o',h1,?_⟩;have:id<s.heap.length:=g _ h1;rw[bf,qQ (by rw[bW];exact this),<-bf];exact h2)
    (λj o' hj=>by
     rw[bf,nf (by rw[bW];omega),bW,show s.heap.length+j-s.heap.length=j by omega,hj];rfl)
    (λid F d=>by
     rcases d with d|d
     .rw[bf,qQ (by rw[bW];exact d),<-bf];exact qN f.wr s.heap id F
     .simp only[RS.hp];rw[bf,bf,eA (by simp[bW];omega),eA S])
   refine hK _ _ k ρ' ⟨lN ⟨e.tm.len,λj c x hx hv=>m (e.tm.rv j c x hx hv)⟩ i.val,q,?_,E9 e.kn,?_,λid v h=>i.rhon id v (e.r0 id v h)⟩ t
   .intro id d;simp only[cL,bW]at d;rw[i.rho id (.inr d)];exact e.new id S
   .cases hd:o.dst<;>simp[Act.put,e.df]
  .simp at h
 .simp at h
theorem mR(h:wO C s a w U ρ):wO C (mb o s) (a.put o.dst undef) w U ρ:=by refine⟨lN h.tm (.tup [] [] rfl sw),h.hp,h.new,E9 h.kn,?_,h.r0⟩;cases x:o.dst<;>simp[Act.put,h.df]
variable {b:List Oper}
theorem VU(m:wO C s a w U ρ)(k:lR E.gl w U){q:Nat}(p:(b[n]?).bind (·.dst)=Y q):
  (∀h,uI E s.tmps s.known (.tmp q)=.kb h->yielded b.toArray a.tmps n=Y h/\a.tmps[q]?=Y (.bool h))/\
  (∀h,uI E s.tmps s.known (.tmp q)=.bool h->yielded b.toArray a.tmps n=Y h/\a.tmps[q]?=Y (.bool h))/\
  (∀o,uI E s.tmps s.known (.tmp q)=.tup o->yielded b.toArray a.tmps n=Q2):=by
 have c:=GG (E:=E) m.tm m.kn k (.tmp q);have i:(b.toArray[n]?).bind (·.dst)=Y q:=by simpa using p
 have d:∀h,a.eval (.tmp q)=.bool h->yielded b.toArray a.tmps n=Y h/\a.tmps[q]?=Y (.bool h):=by
  intro h e;simp only[Act.eval,oD]at e;have:a.tmps[q]?=Y (.bool h):=by
   cases j:a.tmps[q]? with
   |none=>rw[j]at e;simp[undef]at e
   |some v=>rw[j]at e;simp at e;rw[e]
  exact⟨by unfold yielded;rw[i];simp[this],this⟩
 refine⟨λh e=>?_,λh e=>?_,λo l=>?_⟩
 .rw[e]at c;generalize g:a.eval (.tmp q)=x at c;cases c;exact d h g
 .rw[e]at c;generalize g:a.eval (.tmp q)=x at c;cases c;exact d h g
 .rw[l]at c;generalize g:a.eval (.tmp q)=x at c;cases c with
  |tup _ t _ _=>
  simp only[Act.eval,oD]at g;cases j:a.tmps[q]? with
  |none=>unfold yielded;rw[i];simp[j]
  |some v=>rw[j]at g;simp at g;subst g;unfold yielded;rw[i];simp[j]
theorem nJ{b:Bool}(x:wO C s a w U ρ)(e:a.tmps[n]?=Y (.bool b)):wO C {s with known:=(n,b)::s.known} a w U ρ:=by
 refine⟨x.tm,x.hp,x.new,λd c h=>?_,x.df,x.r0⟩;rw[List.lookup_cons]at h;split at h
 .simp_all
 .exact x.kn d c h
theorem FD(p:zm E){u:RS}(h:(sj E b s o).val=Y u)(g:wO C s a w U ρ)(e:Wd E.gl C w U)
  (K:Act->World->Prop) (Q:Exit->Act->World->Prop) (i:∀H F G ρ',wO C u H F G ρ'->Wd E.gl C F G->K H F):
  if Region.wanted o (yielded b.toArray a.tmps)then o.wp E.P a w K Q\/(o.asks E.P a w/\LetsOut Q)else K (a.put o.dst undef) w:=by
 unfold sj at h;split at h
 next m=>simp only[Region.wanted,m,zj];exact .inl (yE p h g e K Q i)
 .rename_i j l m;split at h
  .rename_i v;simp at h;subst h;have n:yielded b.toArray a.tmps j=Q2:=by
    have y:(b.toArray[j]?).bind (·.dst)=Q2:=by simpa using v
    unfold yielded;rw[y];rfl
   simp only[Region.wanted,m,n];rw[zh sw];exact i _ _ U ρ (mR g) e
  .rename_i d v;have⟨z,t,A⟩:=VU (E:=E) g e.gl v;split at h
   .rename_i x q;have⟨n,_⟩:=z x q;simp only[Region.wanted,m,n];split at h
    next k=>simp at k;subst k;rw[zf sw];exact .inl (yE p h g e K Q i)
    next k=>simp at h;subst h;rw[zh (by simpa using k)];exact i _ _ U ρ (mR g) e
   next vs D=>simp at h;subst h;simp only[Region.wanted,m,A vs D];rw[zh sw];exact i _ _ U ρ (mR g) e
   .rename_i x q;have⟨n,c⟩:=t x q;simp only[Region.wanted,m,n];cases x
    .simp only[Tr.val,zO,zr]at h;cases l
     .simp only[zO,zr]at h;rw[zf sw];exact .inl (yE p h (nJ g c) e K Q i)
     .simp at h;subst h;rw[zh sw];exact i _ _ U ρ (mR (nJ g c)) e
    .simp only[Tr.val,zj]at h;cases l
     .simp at h;subst h;rw[zh sw];exact i _ _ U ρ (mR (nJ g c)) e
     .simp only[zj]at h;rw[zf sw];exact .inl (yE p h (nJ g c) e K Q i)
   .simp at h
theorem Bn{E:bS}(t:zm E){b:List Oper}{Q:Exit->Act->World->Prop}{s:RS}(u:∀g d e q,wO C s g d e q->Wd E.gl C d e->Q .normal g d):
  ∀(r:List Oper)(k:Nat)(i:RS)(a:Act)(w:World)(U:Nat->Prop)(ρ:Nat->Option Value),r=b.drop k->(bP E b r i).val=Y s->wO C i a w U ρ->Wd E.gl C w U->
   wpOps E.P b.toArray Q (List.range' k (M r)) a w
 | [],k,i,a,w,U,ρ,_,h,m,j=>by
  simp[bP]at h;subst h;exact u a w U ρ m j
 | o::r,k,i,a,w,U,ρ,hr,h,m,j=>by
  simp only[bP,Tr.val_bind,fV]at h;have⟨p,v,y⟩:=h;have c:b.toArray[k]?=Y o:=by
   have:b[k]?=Y o:=by
    have:=congrArg (·[0]?) hr;simpa[Aq]using this.symm
   simpa using this
  have x:r=b.drop (k+1):=by
   have:=congrArg List.tail hr;simpa using this
  simp only[bx,List.range'_succ,wpOps,c];exact FD t v m j _ _ (λg d e q n l=>Bn t u r (k+1) p g d e q x y n l)
end
end Cad
