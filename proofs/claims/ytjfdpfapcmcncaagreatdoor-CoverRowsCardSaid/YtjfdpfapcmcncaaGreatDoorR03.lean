/- What each operation says. -/
import Derived.Test.YtjfdpfapcmcncaaGreatDoorR02
import Derived.Laws.BytesString
import Derived.Orders
namespace Cad
open Go
open List renaming length→Io
open Tr renaming val→Q8
open Bool renaming false→Q4,true→Q3
open Option renaming none→Q2,some→Q1
open Tr (chk br)
open AV (nils agg tup ptr kb str sl)
section
variable {w:World} {U:Nat->Prop} {ρ:Nat->Option Value}
def tr(gl:Nat->AV)(w:World)(U:Nat->Prop):Prop:=∀g,Rv w U (λ_=>Q2) (gl g) (.pointer (Q1 ⟨g,0,Q2⟩))
structure pn (P:Program) (gl:Nat->AV) (k:FuncId) (F:zZ):Prop where
 fn:∃fn,P.funcs[k]?=Q1 fn/\(fn.name=="runtime.NumGoroutine")=Q4/\fn.body.isNone=Q4
 calls:∀(w:World)(U:Nat->Prop)(ρ:Nat->Option Value)(hp:Nat->AO)(n:Nat)(args:List AV)(vals:List Value)(f:fT)(fp:List Nat),(F args hp n).val=Q1 f->
  dA w U ρ args vals->(∀b,U b->b<w.heap.size)->tr gl w U->HY w U ρ hp fp->(∀id∈AV.idsL args,id∈fp)->(∀id∈fp,∀j∈(hp id).ids,j∈fp)->(∀j,j<f.nw.length->ρ (n+j)=Q2)->
  Calls P k vals.toArray w (λe w'=>∃v U' ρ',e=.returned v/\Ef n hp f w U ρ v w' U' ρ')/\∀id o,(id,o)∈f.wr->id∈fp
structure zw (E:bZ):Prop extends EnvOk E where
 fs:∀k F,E.F k=Q1 F->pn E.P E.gl k F
 mix:E.P.follows .mixedOrders=Q3
theorem qv{v:AV}{id:Nat}(h:id∈dP v):id∈v.ids:=by
 have u:∀cs:List AV,id∈cs.flatMap cU->id∈AV.idsL cs:=by
  intro cs
  induction cs with
  |nil=>simp
  | cons c cs B=>
   intro h;simp only[List.flatMap_cons,cJ]at h;simp only[AV.idsL,cJ];rcases h with h|h
   ·left;cases c<;>simp[cU]at h
    subst h;simp[AV.ids]
   ·exact .inr (B h)
 unfold dP at h;split at h
 ·rename_i cs o;cases v<;>simp only[cellsOf,bH,reduceCtorEq]at o<;>(try subst o)
  case agg cs=>simp only[AV.ids];exact u _ h
  case vec z=>simp[cU]at h;subst h;simp[AV.ids]
  all_goals simp[cU]at h
 ·simp at h
theorem iB{cs:List AV}{c:AV}{id:Nat}(o:c∈cs)(h:id∈c.ids):id∈AV.idsL cs:=by
 induction cs with
 |nil=>simp at o
 | cons x cs u=>
  simp only[AV.idsL,cJ];grind
theorem zaV{cs:List AV}{id:Nat}(h:id∈AV.idsL cs):∃c∈cs,id∈c.ids:=by
 induction cs with
 |nil=>simp[AV.idsL]at h
 | cons x cs o=>
  simp only[AV.idsL,cJ]at h;grind
theorem fS{P:Program}{o:Oper}{a:Act}{K:Act->World->Prop}{Q:Exit->Act->World->Prop}{v:Value}{w':World}(h:(execOp a.eval o).run P w=.ok (.value v) w')(u:K (a.put o.dst v) w'):o.wp P a w K Q:=by
 rw[Oper.wp,h];exact u
theorem w9{P:Program}{o:Oper}{a:Act}{K:Act->World->Prop}{Q:Exit->Act->World->Prop}{u:World}(h:(execOp a.eval o).run P w=.ok .skip u)(z:K (a.put o.dst undef) u):o.wp P a w K Q:=by
 rw[Oper.wp,h];exact z
theorem sf{ev:Operand->AV}{g:Operand->Value}:∀(xs:List Operand),(∀x∈xs,Rv w U ρ (ev x) (g x))->dA w U ρ (xs.map ev) (xs.map g)
 |[],_=>⟨rfl,sw⟩
 | x::xs,h=>by
  have B:=sf xs (λy o=>h y (by simp[o]));refine⟨sw,λj c v u z=>?_⟩;grind
theorem dA.append{a b:List AV}{x y:List Value}(h:dA w U ρ a x)(z:dA w U ρ b y):dA w U ρ (a++b) (x++y):=by
 refine⟨by simp[h.len,z.len],λj c v o u=>?_⟩;by_cases B:j<Io a
 ·rw[mR B]at o;rw[mR (by rw[<-h.len];exact B)]at u;exact h.rv j c v o u
 ·rw[pq ow]at o;rw[pq (by rw[<-h.len];omega),<-h.len]at u;exact z.rv _ c v o u
theorem FA{E:bZ}(hE:EnvOk E){n:Nat}{hp:Nat->AO}{t:TypeId}{u:Nat}{ps:List (Nat×AV)}{vps:List (Nat×Value)}{f:fT}{fp:List Nat}
  (h:(tV E hp n t u ps).val=Q1 f) (hi:ps.map (·.1)=vps.map (·.1)) (hr:dA w U ρ (ps.map (·.2)) (vps.map (·.2)))
  (x5:∀b,U b->b<w.heap.size) (hn:∀j,j<f.nw.length->ρ (n+j)=Q2):
  ∃v w' U' ρ',(Instr.buildSlice t u vps.toArray).run E.P w=.ok v w'/\Ef n hp f w U ρ v w' U' ρ'/\∀id o,(id,o)∈f.wr->id∈fp:=by
 unfold tV at h;split at h
 ·rename_i B hu;split at h
  ·rename_i e he;split at h
   ·rename_i D;simp only[aE,aQ,List.isEmpty_iff]at D;obtain⟨⟨⟨⟨Z,h5⟩,h9⟩,x2⟩,O⟩:=D;split at h
    ·rename_i l hl;simp at h;subst h;have h0:ρ n=Q2:=hn 0 sw;obtain⟨i,z,F,Y,x3,_,hz,x7⟩:=hE.sh B e he;have x0:fR E.P B=Q1 e.size:=by simp[fR,F,Y]
     have X:(ps.map (·.2)).flatMap dP=[]:=by
      rw[<-O,List.flatMap_map]
     obtain⟨h1,h2,h3⟩:=xw (w:=w) (U:=U) (ρ:=ρ) (U':=U) (λ_ h=>h) _ _ l hl hr
      (λid W=>by rw[X]at W;cases W)
     have h6:vps=((vps.map (·.2)).zipIdx 0).map λp=>(p.2,p.1):=by
      have h1:=qk ps 0 h5;have I:ps.map (·.1)=List.range' 0 (Io ps):=by
       have:=congrArg (List.map (·.1)) h1;rw[pM]at this;rw[this];have e2:((λx:Nat×AV=>x.1)∘λp:AV×Nat=>(p.2,p.1))=Prod.snd:=rfl;rw[e2,List.zipIdx_map_snd];simp
      have h7:Io ps=Io vps:=by have:=congrArg Io hi;simpa using this
      rw[hi,h7]at I;apply List.ext_getElem
      ·simp
      ·intro k hk x4;have:(vps.map (·.1))[k]?=(List.range' 0 (Io vps))[k]?:=by rw[I]
       grind
     have G:Io vps=u:=by rw[<-Z];have:=congrArg Io hi;simpa using this.symm
     obtain⟨r,e1,e2,e3,e4⟩:=xT e.size (vps.map (·.2)) 0 (((Array.range (u*e.size)).map (z.cells[· %z.cells.size]!)).toList)
      (λv hv=>(h2 v hv).1) (by simp[G])
     rw[<-h6]at e1;have h4:u*e.size≠0:=Nat.mul_ne_zero ow ow;have M:¬(2^24<u*e.size):=by omega
     have h8:Io l=u:=by rw[h1];simpa using G
     have hs:w.heap.size<=(w.alloc (.cells r.toArray B)).heap.size:=by rw[be];omega
     refine⟨.slice (Q1 ⟨w.heap.size,0,Q2⟩) u u,w.alloc (.cells r.toArray B),λb=>U b\/b=w.heap.size,_,?_,Ef.newVec sw h0 rfl (mv.alloc w _ _) (λb J _=>bq w _ b J) ?_ ?_ ?_ ?_,sw⟩
     ·simp only[Ps]at e1;simp only[Instr.buildSlice,cI,bD hu,cQ x0,pJ];simp only[gt_iff_lt,M,if_false,h4,pH,pJ,cI,zeroValue,typeInfo,run_program,F,hz,e1,newRow,run_newObj];rfl
     ·intro b J;rw[be];grind
     ·grind
     ·refine⟨Q1 ⟨w.heap.size,0,Q2⟩,u,by simp[mJ,h8],by unfold aG;grind,.inr ⟨w.heap.size,B,r.toArray,rfl,h9,.inr rfl,cH w _,by simp[e2],ow,?_⟩⟩;intro i' T j c hc;have H:i'<(vps.map (·.2)).length:=by rw[<-h1];exact T
      obtain⟨v,x6,x1⟩:=h3 i' T H j c hc;have hj:j<e.size:=by have:=(dn.1 hc).1;rwa [ac]at this
      have:=e4 i' H j hj;rw[ek]at this;refine⟨v,by grind,x1.mono hs (λb J _=>bq w _ b J) (λb J h=>h.elim (λx=>x) (λe=>by omega)) (eV h0)⟩
     ·intro b J;simp[e7]at J;exact .inl ow
    ·simp at h
   ·simp at h
  ·simp at h
 ·simp at h
theorem An:∀(l:List Int)(s:ByteArray),l.foldl (λr n=>r.push (UInt8.ofNat n.toNat)) s=⟨s.data++(jf l).toArray⟩:=by
 intro l
 induction l with
 |nil=>intro s;simp[jf]
 |cons n l h=>intro s;rw[List.foldl_cons,h];simp[jf,ByteArray.push]
theorem NT{P:Program}{src dst B:TypeId}{x:AV}{v:Value}{f:fT}(h:(Ir P B x).val=Q1 f)(J:P.underlying src=Q1 (.slice B))
  (I:P.underlying dst=Q1 .string) (X:Rv w U ρ x v):
  ∃r x,f={val:=r}/\(convert src dst v).run P w=.ok x w/\Rv w U ρ r x:=by
 unfold Ir at h;split at h
 ·rename_i l;split at h
  ·rename_i M;simp at h;subst h;cases X with
   | sl0 _ a c=>
    refine⟨_,.string ⟨(jf []).toArray⟩,rfl,?_,.str _ (by simp[jf])⟩;rw[run_convert_bytes_string w src dst B a _ _ J M I];cases a with
    |none=>simp[Conv.bytesToString,jf];rfl
    | some a=>
     have:=run_bytesToString (P:=P) w a 0 c [] (by simpa using run_loadCells_list (P:=P) w a [] (λj v O=>by simp at O));rw[An]at this;simpa[jf]using this
   | sl _ _ b o c z hc W Z Y u F=>
    have T:∀j(D:j<Io l),w.cell? ⟨b,o+j,Q2⟩=Q1 (.int .u8 l[j]):=by
     intro j D;have G:=u j 0 D (by simp[Sh.size]);have H:=F j D 0 (.int .u8 l[j]) rfl;generalize z j 0=vv at G H;cases H with
     |int _ _ hn=>
     simpa[Sh.size]using G
    have:=run_bytesToString (P:=P) w ⟨b,o,Q2⟩ (Io l) c l (by
     have:=run_loadCells_list (P:=P) w ⟨b,o,Q2⟩ (l.map (Value.int .u8)) (λj v O=>by
      rw[Addr.add_none];grind)
     simpa using this)
    rw[An]at this;refine⟨_,.string ⟨(jf l).toArray⟩,rfl,?_,.str _ (by simpa[jf]using W)⟩;rw[run_convert_bytes_string w src dst B _ _ _ J M I];simpa[jf]using this
  ·simp at h
 ·simp at h
theorem G0{E:bZ}(hE:zw E){ev:Operand->AV}{hp:Nat->AO}{n:Nat}{o:Oper}{f:fT}{a:Act}{fp:List Nat}(h:(qa E ev hp n o).val=Q1 f)
  (H:∀x∈o.op.operands.toList,Rv w U ρ (ev x) (a.eval x)) (Z:∀b,U b->b<w.heap.size) (i5:tr E.gl w U) (h0:HY w U ρ hp fp)
  (W:iF o.op=Q3->∀x∈o.op.operands.toList,∀id∈(ev x).ids,id∈fp) (i3:tM o.op=Q3->∀id∈fp,∀j∈(hp id).ids,j∈fp) (hn:∀j,j<f.nw.length->ρ (n+j)=Q2):
  (∀(K:Act->World->Prop)(Q:Exit->Act->World->Prop),(∀v w' U' ρ',Ef n hp f w U ρ v w' U' ρ'->K (a.put o.dst v) w')->o.wp E.P a w K Q)/\∀id o',(id,o')∈f.wr->id∈fp:=by
 have B:∀(r:AV)(x:Value),f={val:=r}->(execOp a.eval o).run E.P w=.ok (.value x) w->Rv w U ρ r x->
   (∀(K:Act->World->Prop)(Q:Exit->Act->World->Prop),(∀v w' U' ρ',Ef n hp f w U ρ v w' U' ρ'->K (a.put o.dst v) w')->o.wp E.P a w K Q)/\∀id o',(id,o')∈f.wr->id∈fp:=by
  rintro r x rfl G hr;exact⟨λK Q hK=>fS G (hK _ _ _ _ (Ef.pure Z hr)),sw⟩
 unfold qa at h;split at h
 case h_1 x D=>
  simp at h;subst h;exact B _ (a.eval x) rfl (by simp[execOp,D]) (H x (by simp[D,Op.operands]))
 case h_2 x D=>
  simp at h;subst h;exact B _ (a.eval x) rfl (by simp[execOp,D]) (H x (by simp[D,Op.operands]))
 case h_3 c x y D=>
  have hc:=H c (by simp[D,Op.operands]);have J:=H x (by simp[D,Op.operands]);have hy:=H y (by simp[D,Op.operands]);generalize a3:a.eval c=vc at hc;split at h
  ·rename_i h5;rw[h5]at hc;cases hc;simp at h;subst h;exact B _ (a.eval x) rfl (by simp[execOp,D,a3,asBool]) J
  ·rename_i h5;rw[h5]at hc;cases hc;simp at h;subst h;exact B _ (a.eval y) rfl (by simp[execOp,D,a3,asBool]) hy
  ·rename_i b h5;rw[h5]at hc;cases hc;simp at h;obtain⟨z,hz,rfl⟩:=h;refine B _ (ite b (a.eval x) (a.eval y)) rfl (by simp[execOp,D,a3,asBool]) (DI hz ?_);cases b<;>simp[J,hy]
  ·simp at h
 case h_4 t x D=>
  have J:=H x (by simp[D,Op.operands]);split at h
  ·rename_i cs Y;simp at h;subst h;obtain⟨h1,h2⟩:=gU Y J;refine⟨λK Q hK=>fS (v:=.pointer (Q1 ⟨w.heap.size,0,Q2⟩)) (w':=w.alloc (.cells (a.eval x).cells t)) ?_ (hK _ _ _ _ (Ef.box Z (by simpa using hn 0 sw) h1 h2)),sw⟩;simp[execOp,D,Instr.box,newVar,newRow]
  ·simp at h
 case h_5 t D=>
  split at h
  ·rename_i cs Y;simp at h;subst h;unfold Yz at Y;split at Y
   ·rename_i i a0;have hz:∃zv,i.zero=Q1 zv/\dA w U ρ cs zv.cells.toList/\∀v∈zv.cells.toList,v.oneCell'=Q3:=by
     cases x2:i.zero with
     |none=>rw[x2]at Y;cases Y
     | some zv=>
      by_cases hm:zv=.map Q2
      ·subst hm;rw[x2]at Y;cases Y;refine⟨_,rfl,⟨rfl,λi r v hr hv=>?_⟩,λv hv=>?_⟩
       ·cases i with
        |zero=>cases hr;exact .any _
        |succ i=>simp at hr
       have:v=Value.map Q2:=by simpa[Value.cells]using hv
       subst this;rfl
      ·have a5:cellsOf (Cf zv)=Q1 cs:=by
        rw[x2]at Y;split at Y
        ·simp_all
        ·rename_i e;cases e;exact Y
        ·rename_i e;cases e
       obtain⟨h1,h2⟩:=gU a5 (qY (w:=w) (U:=U) (ρ:=ρ) zv);exact⟨zv,rfl,h1,h2⟩
    obtain⟨zv,x2,h1,h2⟩:=hz;refine⟨λK Q hK=>fS (v:=.pointer (Q1 ⟨w.heap.size,0,Q2⟩)) (w':=w.alloc (.cells zv.cells t)) ?_ (hK _ _ _ _ (Ef.box Z (by simpa using hn 0 sw) h1 h2)),sw⟩;simp[execOp,D,Instr.alloc,zeroValue,typeInfo,a0,x2,newVar,newRow]
   ·cases Y
  ·simp at h
 case h_6 t x D=>
  have J:=H x (by simp[D,Op.operands]);obtain⟨r,v,rfl,G,hr⟩:=GZ h J (λid I=>h0.ob id (W (by simp[D,iF]) x (by simp[D,Op.operands]) id I));exact B r v rfl (by simp[execOp,D,G]) hr
 case h_7 t x y D=>
  have J:=H x (by simp[D,Op.operands]);have hy:=H y (by simp[D,Op.operands])
  obtain⟨w',U',G,O,M⟩:=NX (n:=n) h J hy Z h0 (λid I=>W (by simp[D,iF]) x (by simp[D,Op.operands]) id I)
   (λid I=>W (by simp[D,iF]) y (by simp[D,Op.operands]) id (qv I))
  exact⟨λK Q hK=>w9 (by simp[execOp,D,G]) (hK _ _ _ _ O),M⟩
 case h_8 t x fl D=>
  have J:=H x (by simp[D,Op.operands]);obtain⟨r,v,rfl,G,hr⟩:=NV h J;exact B r v rfl (by simp[execOp,D,G]) hr
 case h_9 t x fl D=>
  have J:=H x (by simp[D,Op.operands]);split at h
  ·rename_i fd cs x4 Y;simp at h;obtain⟨r,hr,rfl⟩:=h;rw[Y]at J;generalize X:a.eval x=vx at J;cases J with
   |agg _ vs hl h1 a2=>
   obtain⟨v,G,x1⟩:=DU hr hl h1 a2;unfold Bj at x4;split at x4
   ·rename_i fs hu;exact B r v rfl (by simp[execOp,D,X,Instr.field,bD hu,x4,asAgg,G]) x1
   ·cases x4
  ·simp at h
 case h_10 t x i D=>
  have J:=H x (by simp[D,Op.operands]);have hi:=H i (by simp[D,Op.operands]);obtain⟨r,v,rfl,G,hr⟩:=Da h J hi (λid I=>h0.ob id (W (by simp[D,iF]) x (by simp[D,Op.operands]) id I));exact B r v rfl (by simp[execOp,D,G]) hr
 case h_11 t x i D=>
  have J:=H x (by simp[D,Op.operands]);have hi:=H i (by simp[D,Op.operands]);obtain⟨r,v,rfl,G,hr⟩:=NW h J hi;exact B r v rfl (by simp[execOp,D,G]) hr
 case h_12 t parts D=>
  simp at h;obtain⟨r,hr,rfl⟩:=h;have a8:∀p∈parts.toList,Rv w U ρ (ev p.2) (a.eval p.2):=λp hp=>H p.2 (by simp only[D,Op.operands];grind)
  obtain⟨v,G,x1⟩:=R2 (w:=w) (U:=U) (ρ:=ρ) (vparts:=parts.toList.map λp=>(p.1,a.eval p.2)) hr sw (by
   have:=sf (w:=w) (U:=U) (ρ:=ρ) (ev:=ev) (g:=a.eval) (parts.toList.map (·.2)) (λx J=>by
    grind)
   simpa[pM,uH]using this)
  refine B r v rfl ?_ x1;have e1:(parts.toList.map λp=>(p.1,a.eval p.2)).toArray=parts.map λp=>(p.1,a.eval p.2):=by
   apply mz;simp
  rw[e1]at G;simp[execOp,D,G]
 case h_13 t j5 parts D=>
  have a8:∀p∈parts.toList,Rv w U ρ (ev p.2) (a.eval p.2):=λp hp=>H p.2 (by simp only[D,Op.operands];grind)
  have a9:dA w U ρ ((parts.toList.map λp=>(p.1,ev p.2)).map (·.2)) ((parts.toList.map λp=>(p.1,a.eval p.2)).map (·.2)):=by
   have:=sf (w:=w) (U:=U) (ρ:=ρ) (ev:=ev) (g:=a.eval) (parts.toList.map (·.2)) (λx J=>by
    grind)
   simpa[pM,uH]using this
  have e1:(parts.toList.map λp=>(p.1,a.eval p.2)).toArray=parts.map λp=>(p.1,a.eval p.2):=by
   apply mz;simp
  split at h
  ·obtain⟨v,w',U',ρ',G,O,M⟩:=FA hE.toEnvOk (fp:=fp) (n:=n) (w:=w) (U:=U) (ρ:=ρ) (vps:=parts.toList.map λp=>(p.1,a.eval p.2)) h sw a9 Z hn;refine⟨λK Q hK=>fS ?_ (hK _ _ _ _ O),M⟩;rw[e1]at G;simp[execOp,D,G]
  ·obtain⟨v,w',U',G,O,M⟩:=AU hE.toEnvOk (n:=n) (w:=w) (U:=U) (ρ:=ρ) (vps:=parts.toList.map λp=>(p.1,a.eval p.2)) h sw a9 Z h0 (λid I=>by
    simp only[uJ,bd]at I;obtain⟨q,⟨p,hp,rfl⟩,I⟩:=I;exact W (by simp[D,iF]) p.2 (by simp only[D,Op.operands];grind) id (qv I))
   refine⟨λK Q hK=>fS ?_ (hK _ _ _ _ O),M⟩;rw[e1]at G;simp[execOp,D,G]
 case h_14 op t x y yt D=>
  have J:=H x (by simp[D,Op.operands]);have hy:=H y (by simp[D,Op.operands]);obtain⟨r,v,rfl,G,hr⟩:=ZY x y h J hy;refine B r v rfl ?_ hr;simp only[execOp,D];rw[cI,G];rfl
 case h_15 t x D=>
  have J:=H x (by simp[D,Op.operands]);generalize X:a.eval x=vx at J;split at h
  ·rename_i b hb;rw[hb]at J;cases J;simp at h;subst h;exact B _ (.bool (!b)) rfl (by simp[execOp,D,X,Op.unary]) (.bool _)
  ·rename_i b hb;rw[hb]at J;cases J;simp at h;subst h;exact B _ (.bool (!b)) rfl (by simp[execOp,D,X,Op.unary]) (.kb _)
  ·simp at h
 case h_16 t x D=>
  have J:=H x (by simp[D,Op.operands]);generalize X:a.eval x=vx at J;split at h
  ·rename_i k b hb;rw[hb]at J;cases J;simp at h;subst h;exact B _ (.int k (k.wrap (-b))) rfl (by simp[execOp,D,X,Op.unary,Op.intArith]) (.int _ _ (oY _ _))
  ·simp at h
 case h_17 j1 i2 x D=>
  have J:=H x (by simp[D,Op.operands]);generalize X:a.eval x=vx at J;split at h
  ·rename_i d k k' b hs hu hb;rw[hb]at J;cases J;simp at h;subst h;exact B _ (.int k (k.wrap b)) rfl (by simp[execOp,D,X,convert,bD hs,bD hu,Conv.intToInt]) (.int _ _ (oY _ _))
  ·rename_i d s hs hu hb;rw[hb]at J;have hh:=J;cases J;simp at h;subst h;exact B _ _ rfl (by simp[execOp,D,X,convert,bD hs,bD hu]) hh
  ·rename_i el e l hs hu hb;rw[hb]at J;obtain⟨r,v,rfl,G,hr⟩:=NT (src:=j1) (dst:=i2) h hs hu J;exact B r v rfl (by simp[execOp,D,X,G]) hr
  ·simp at h
 case h_18 t x lo hi mx D=>
  have J:=H x (by simp[D,Op.operands])
  obtain⟨v,U',G,O,M⟩:=Li (n:=n) (fp:=fp) (w:=w) (U:=U) (ρ:=ρ) (vlo:=lo.map a.eval) (vhi:=hi.map a.eval) (vmx:=mx.map a.eval) h J
   (λb v hb hv=>by cases lo<;>simp at hb hv;subst hb;subst hv;exact H _ (by simp[D,Op.operands]))
   (λb v hb hv=>by cases hi<;>simp at hb hv;subst hb;subst hv;exact H _ (by simp[D,Op.operands]))
   (λb v hb hv=>by cases mx<;>simp at hb hv;subst hb;subst hv;exact H _ (by simp[D,Op.operands])) (by cases lo<;>rfl) (by cases hi<;>rfl) (by cases mx<;>rfl) Z h0 (λid I=>W (by simp[D,iF]) x (by simp[D,Op.operands]) id I)
  exact⟨λK Q hK=>fS (by simp[execOp,D,G]) (hK _ _ _ _ O),M⟩
 case h_19 x i D=>
  have J:=H x (by simp[D,Op.operands]);generalize X:a.eval x=vx at J;split at h
  ·rename_i vs j0;rw[j0]at J;simp at h;obtain⟨r,hr,rfl⟩:=h;cases J with
   |tup _ xs hl a2=>
   have a6:i<Io xs:=by rw[<-hl];exact(dn.1 hr).1
   exact B r xs[i] rfl (by simp[execOp,D,X,Instr.extract,zU a6]) (a2 i r _ hr (zU a6))
  ·simp at h
 case h_20 fn first h9 D=>
  simp at h;subst h;refine B _ (.func fn (first.toList.map a.eval).toArray (h9.toList.map a.eval).toArray) rfl (by simp[execOp,D,Instr.makeFunc];grind) ?_;have h1:=sf (w:=w) (U:=U) (ρ:=ρ) (ev:=ev) (g:=a.eval) first.toList (λx J=>H x (by simp[D,Op.operands];exact .inl (by simpa using J)))
  have h2:=sf (w:=w) (U:=U) (ρ:=ρ) (ev:=ev) (g:=a.eval) h9.toList (λx J=>H x (by simp[D,Op.operands];exact .inr (by simpa using J)));exact .clo fn _ _ _ _ h1.len h2.len h1.rv h2.rv
 case h_21 x D=>
  have J:=H x (by simp[D,Op.operands]);have j4:=J;generalize X:a.eval x=vx at J;split at h
  ·rename_i i j h8;rw[h8]at J;simp at h;subst h;have hh:=J;cases J;exact B _ _ rfl (by simp[execOp,D,X]) hh
  ·rename_i cs j h8;rw[h8]at J;simp at h;subst h;have hh:=J;cases J;exact B _ _ rfl (by simp[execOp,D,X]) hh
  ·rename_i i j k l h8;rw[h8]at J;simp at h;subst h;have hh:=J;cases J;exact B _ _ rfl (by simp[execOp,D,X]) hh
  ·rename_i g as bs h8;rw[h8]at J;simp at h;subst h;have hh:=J;cases J;exact B _ _ rfl (by simp[execOp,D,X]) hh
  ·simp at h
 case h_22 c D=>
  have hm:iF o.op=Q3:=by simp[D,iF]
  have T:∀x∈c.args.toList,x∈o.op.operands.toList:=by
   intro x J;simp only[D,Op.operands,Call.operands,Array.toList_append,cJ];exact .inr J
  have x1:=sf (w:=w) (U:=U) (ρ:=ρ) (ev:=ev) (g:=a.eval) c.args.toList (λx J=>H x (T x J));unfold Vl at h;split at h
  ·rename_i fo h6;have x9:fo∈o.op.operands.toList:=by simp[D,Op.operands,Call.operands,h6]
   have hf:=H fo x9;generalize i9:a.eval fo=vf at hf;split at h
   ·rename_i k first h9 hcl0
    split at h
    ·rename_i F hF;have x6:=hE.fs k F hF;rw[hcl0]at hf;cases hf with
     |clo _ _ _ i1 i0 h1 h2 h3 h4=>
     have a4:dA w U ρ (first++c.args.toList.map ev++h9) (i1++c.args.toList.map a.eval++i0):=(dA.append ⟨h1,h3⟩ x1).append ⟨h2,h4⟩;obtain⟨x3,M⟩:=x6.calls w U ρ hp n _ _ f fp h a4 Z i5 h0 (λid I=>by
      obtain⟨cc,h5,I⟩:=zaV I;simp only[cJ,bd]at h5;rcases h5 with(h5|⟨x,J,rfl⟩)|h5
      ·exact W hm fo x9 id (by rw[hcl0];simp only[AV.ids,cJ];exact .inl (iB h5 I))
      ·exact W hm x (T x J) id I
      ·exact W hm fo x9 id (by rw[hcl0];simp only[AV.ids,cJ];exact .inr (iB h5 I))) (i3 (by simp[D,tM])) hn
     refine⟨λK Q hK=>?_,M⟩;obtain⟨fn,i4,a1,x8⟩:=x6.fn;have G:(execOp a.eval o).run E.P w=.ok (.enter k (i1++c.args.toList.map a.eval++i0).toArray) w:=by
      simp only[execOp,D,resolve,h6,i9,Deferred.ofValue,cI,pH,pJ,invoke,callFunc,run_program,i4,a1,x8,zA,if_false];congr 2;apply mz;simp
     rw[Oper.wp,G];refine x3.mono λe w' ⟨v,U',ρ',he,O⟩=>?_
     grind
    ·simp at h
   ·simp at h
  ·rename_i h6;split at h
   ·rename_i x t h7 x7;have hc:c.args.toList.length=1:=by have:=congrArg Io h7;simpa using this
    obtain⟨xo,x5⟩:∃xo,c.args.toList=[xo]:=List.length_eq_one_iff.1 hc;rw[x5]at h7;simp at h7;subst h7;obtain⟨r,v,rfl,G,hr⟩:=Vn (P:=E.P) (w:=w) (U:=U) (ρ:=ρ) (ty:=o.type) h (H xo (T xo (by simp[x5]))) (λid I=>h0.ob id (W hm xo (T xo (by simp[x5])) id I));refine B r v rfl ?_ hr;have e1:c.args=#[xo]:=by apply mz;simpa using x5
    have e2:c.argTypes=#[t]:=by apply mz;simpa using x7
    simp[execOp,D,resolve,h6,invoke,builtin,e1,e2,G]
   ·simp at h
  ·rename_i h6;split at h
   ·rename_i b x t t' h7 x7;split at h
    ·rename_i j2 j3 hu i8;have hc:c.args.toList.length=2:=by have:=congrArg Io h7;simpa using this
     obtain⟨bo,xo,x0⟩:∃bo xo,c.args.toList=[bo,xo]:=by
      match hl:c.args.toList,hc with
      |[p,q],_=>exact⟨p,q,rfl⟩
     rw[x0]at h7;simp at h7;obtain⟨rfl,rfl⟩:=h7;have i6:ρ n=Q2:=by
      have h1:f.nw.length=1:=by
       clear hn;unfold vg at h;repeat' split at h
       all_goals first
        |(simp at h;done)
        |(simp at h;obtain⟨_,rfl⟩:=h;rfl)
      simpa using hn 0 ow
     obtain⟨v,w',U',ρ',G,O,M⟩:=Lg hE.toEnvOk (w:=w) (U:=U) (ρ:=ρ) (t:=t) (t':=t') (ty:=o.type) h hu i8 (H bo (T bo (by simp[x0]))) (H xo (T xo (by simp[x0]))) Z h0
      (λid I=>W hm bo (T bo (by simp[x0])) id I) (λid I=>W hm xo (T xo (by simp[x0])) id I) i6
     refine⟨λK Q hK=>fS ?_ (hK _ _ _ _ O),M⟩;have e1:c.args=#[bo,xo]:=by apply mz;simpa using x0
     have e2:c.argTypes=#[t,t']:=by apply mz;simpa using x7
     simp[execOp,D,resolve,h6,invoke,builtin,e1,e2,G]
    ·simp at h
   ·simp at h
  ·simp at h
 case h_23 t D=>
  split at h
  ·rename_i o0 a7;simp at h;subst h;have i7:o0=.fmap []\/∃u,o0=.vmap u []:=by
    unfold WC at a7;repeat' split at a7
    all_goals simp_all
   refine⟨λK Q hK=>fS (v:=.map (Q1 w.heap.size)) (w':=w.alloc (.map #[] 0)) ?_ (hK _ _ _ _ (Ef.mkMap i7 Z (by simpa using hn 0 sw))),sw⟩;simp[execOp,D,Instr.makeMap,newObj];rfl
  ·simp at h
 case h_24 t m k x D=>
  obtain⟨w',G,O,M⟩:=Al (n:=n) h (H m (by simp[D,Op.operands])) (H k (by simp[D,Op.operands])) (H x (by simp[D,Op.operands])) Z h0 (λid I=>W (by simp[D,iF]) m (by simp[D,Op.operands]) id I);exact⟨λK Q hK=>w9 (by simp[execOp,D,G]) (hK _ _ _ _ O),M⟩
 case h_25 t m k x D=>
  obtain⟨w',G,O,M⟩:=Al (n:=n) h (H m (by simp[D,Op.operands])) (H k (by simp[D,Op.operands])) (H x (by simp[D,Op.operands])) Z h0 (λid I=>W (by simp[D,iF]) m (by simp[D,Op.operands]) id I);exact⟨λK Q hK=>w9 (by simp[execOp,D,G]) (hK _ _ _ _ O),M⟩
 case h_26 t x i two D=>
  obtain⟨r,v,rfl,G,hr⟩:=Lh h (H x (by simp[D,Op.operands])) (H i (by simp[D,Op.operands])) (λid I=>h0.ob id (W (by simp[D,iF]) x (by simp[D,Op.operands]) id I));exact B r v rfl (by simp[execOp,D,G]) hr
 case h_27 t m k D=>
  obtain⟨v,w',G,O,M⟩:=NU (n:=n) h (H m (by simp[D,Op.operands])) (H k (by simp[D,Op.operands])) Z h0 (λid I=>W (by simp[D,iF]) m (by simp[D,Op.operands]) id I);exact⟨λK Q hK=>fS (by simp[execOp,D,G]) (hK _ _ _ _ O),M⟩
 case h_28 t m s x D=>
  obtain⟨w',G,O,M⟩:=AW (P:=E.P) (t:=t) (n:=n) h (H m (by simp[D,Op.operands])) (H s (by simp[D,Op.operands])) (H x (by simp[D,Op.operands])) Z h0 (λid I=>W (by simp[D,iF]) m (by simp[D,Op.operands]) id I);exact⟨λK Q hK=>w9 (by simp[execOp,D,G]) (hK _ _ _ _ O),M⟩
 case h_29=>simp at h
end
structure ff where
 w0:World
 U0:Nat->Prop
 B0:Nat->Prop
 ρ0:Nat->Option Value
structure Wd (gl:Nat->AV) (C:ff) (w:World) (U:Nat->Prop):Prop where
 ext:mv C.w0 w
 same:∀b,b<C.w0.heap.size->¬C.B0 b->w.heap[b]?=C.w0.heap[b]?
 ub:∀b,U b->b<w.heap.size
 u1:∀b,b<C.w0.heap.size->U b->C.U0 b
 u2:∀b,b<C.w0.heap.size->C.U0 b->¬C.B0 b->U b
 gl:tr gl w U
structure jI (C:ff) (w:World) (U:Nat->Prop) (ρ:Nat->Option Value) (hp:Nat->AO):Prop where
 ob:∀id,bF w U ρ id (hp id)
 inj:∀id1 id2 b,ar ρ id1 (hp id1) b->ar ρ id2 (hp id2) b->id1=id2
 blk:∀id b,ar ρ id (hp id) b->C.B0 b\/C.w0.heap.size<=b
section
variable {gl:Nat->AV} {C:ff} {w:World} {U:Nat->Prop} {ρ:Nat->Option Value}
theorem Cp{n:Nat}{hpl hp hp':Nat->AO}{f:fT}{v:Value}{w':World}{U':Nat->Prop}{ρ':Nat->Option Value}(hW:Wd gl C w U)(hH:jI C w U ρ hp)(u:Ef n hpl f w U ρ v w' U' ρ')
  (Y:∀id o,(id,o)∈f.wr->hpl id=hp id)
  (h1:∀id,(∃o,(id,o)∈f.wr)->∃o,(id,o)∈f.wr/\hp' id=o) (h2:∀(j:Nat) o,f.nw[j]?=Q1 o->hp' (n+j)=o)
  (h3:∀id,(¬∃o,(id,o)∈f.wr)->(id<n\/n+f.nw.length<=id)->hp' id=hp id):
  Wd gl C w' U'/\jI C w' U' ρ' hp'/\∀{c:AV}{x:Value},Rv w U ρ c x->Rv w' U' ρ' c x:=by
 have h7:∀id o b,(id,o)∈f.wr->ar ρ id (hpl id) b->U b/\b<w.heap.size:=by
  intro id o b D J;rw[Y id o D]at J;exact(hH.ob id).inU J
 have hk:∀b,b<w.heap.size->¬U b->w'.heap[b]?=w.heap[b]?:=λb T hU=>u.same b T (λid o D J=>hU (h7 id o b D J).1)
 have x1:∀{c:AV}{x:Value},Rv w U ρ c x->Rv w' U' ρ' c x:=λh=>h.mono u.ext.sz hk u.u1 u.rhon
 have Z:∀id,(∃o,(id,o)∈f.wr/\hp' id=o)\/(n<=id/\∃o,f.nw[id-n]?=Q1 o/\hp' id=o)\/((¬∃o,(id,o)∈f.wr)/\(id<n\/n+f.nw.length<=id)/\hp' id=hp id):=by
  intro id;by_cases hw:∃o,(id,o)∈f.wr
  ·exact .inl (h1 id hw)
  ·grind
 have h0:∀id,(¬∃o,(id,o)∈f.wr)->∀b,ar ρ id (hp id) b->b<w.heap.size/\∀F o',(F,o')∈f.wr->¬ar ρ F (hpl F) b:=by
  intro id hw b J;refine⟨((hH.ob id).inU J).2,λF o' M O=>?_⟩;rw[Y F o' M]at O;have:=hH.inj id F b J O;subst this;exact hw ⟨o',M⟩
 have B:∀id,(id<n\/n+f.nw.length<=id)->∀o b,ar ρ' id o b->ar ρ id o b:=by
  rintro id D o b ⟨h,v,hv,T⟩;rw[u.rho id D]at hv;exact⟨h,v,hv,T⟩
 have H:∀id b,((∃o,(id,o)∈f.wr/\hp' id=o)\/(n<=id/\∃o,f.nw[id-n]?=Q1 o/\hp' id=o))->ar ρ' id (hp' id) b->
   w.heap.size<=b\/∃F o',(F,o')∈f.wr/\ar ρ F (hp F) b:=by
  intro id b D J;have x3:((id,hp' id)∈f.wr\/(n<=id/\f.nw[id-n]?=Q1 (hp' id))):=by
   rcases D with⟨o,h,rfl⟩|⟨h,o,h',rfl⟩
   ·exact .inl h
   ·exact .inr ⟨h,h'⟩
  rcases u.own id _ b x3 J with h|⟨F,o',M,O⟩
  ·exact .inl h
  ·grind
 refine⟨⟨hW.ext.trans u.ext,?_,u.ub,?_,?_,?_⟩,⟨?_,?_,?_⟩,x1⟩
 ·intro b T hB;rw[u.same b (g7 T hW.ext.sz) (λid o D J=>?_)]
  ·exact hW.same b T hB
  ·rw[Y id o D]at J;rcases hH.blk id b J with h|h
   ·exact hB h
   ·omega
 ·intro b T hU;exact hW.u1 b T (u.u1 b (g7 T hW.ext.sz) hU)
 ·intro b T hU hB;refine u.u2 b (g7 T hW.ext.sz) (hW.u2 b T hU hB) (λid o D J=>?_);rw[Y id o D]at J;rcases hH.blk id b J with h|h
  ·exact hB h
  ·omega
 ·intro g;exact(hW.gl g).mono u.ext.sz hk u.u1 (λ_ _ h=>by cases h)
 ·intro id;rcases Z id with⟨o,h,e⟩|⟨h,o,h',e⟩|⟨hw,D,e⟩
  ·rw[e];exact u.wr id o h
  ·rw[e];have:=u.nw (id-n) o h';simp_all
  ·rw[e];refine(hH.ob id).mono u.ext.sz hk u.u1 u.rhon (λb J=>?_);obtain⟨T,h6⟩:=h0 id hw b J;exact⟨u.same b T h6,u.u2 b T ((hH.ob id).inU J).1 h6⟩
 ·intro id1 z b I G;have k1:=Z id1;have k2:=Z z
  have x2:∀id1 z,((∃o,(id1,o)∈f.wr/\hp' id1=o)\/(n<=id1/\∃o,f.nw[id1-n]?=Q1 o/\hp' id1=o))->
    ((¬∃o,(z,o)∈f.wr)/\(z<n\/n+f.nw.length<=z)/\hp' z=hp z)->ar ρ' id1 (hp' id1) b->ar ρ' z (hp' z) b->False:=by
   intro id1 z k1 ⟨hw,D,e⟩ I G;rw[e]at G;have x0:=B z D _ b G;obtain⟨T,h6⟩:=h0 z hw b x0;rcases H id1 b k1 I with h|⟨F,o',M,O⟩
   ·omega
   ·grind
  rcases k1 with k1|k1|k1<;>rcases k2 with k2|k2|k2
  ·obtain⟨o1,W,e1⟩:=k1;obtain⟨o2,X,e2⟩:=k2;rw[e1]at I;rw[e2]at G;exact u.inj id1 o1 z o2 b (.inl W) (.inl X) I G
  ·obtain⟨o1,W,e1⟩:=k1;obtain⟨h5,o2,X,e2⟩:=k2;rw[e1]at I;rw[e2]at G;exact u.inj id1 o1 z o2 b (.inl W) (.inr ⟨h5,X⟩) I G
  ·grind
  ·obtain⟨h4,o1,W,e1⟩:=k1;obtain⟨o2,X,e2⟩:=k2;rw[e1]at I;rw[e2]at G;exact u.inj id1 o1 z o2 b (.inr ⟨h4,W⟩) (.inl X) I G
  ·obtain⟨h4,o1,W,e1⟩:=k1;obtain⟨h5,o2,X,e2⟩:=k2;rw[e1]at I;rw[e2]at G;exact u.inj id1 o1 z o2 b (.inr ⟨h4,W⟩) (.inr ⟨h5,X⟩) I G
  ·grind
  ·grind
  ·grind
  ·obtain⟨_,h8,e1⟩:=k1;obtain⟨_,h9,e2⟩:=k2;rw[e1]at I;rw[e2]at G;exact hH.inj id1 z b (B id1 h8 _ b I) (B z h9 _ b G)
 ·intro id b J;rcases Z id with k|k|⟨_,D,e⟩
  ·rcases H id b (.inl k) J with h|⟨F,o',M,O⟩
   ·exact .inr (bt hW.ext.sz h)
   ·exact hH.blk F b O
  ·rcases H id b (.inr k) J with h|⟨F,o',M,O⟩
   ·exact .inr (bt hW.ext.sz h)
   ·exact hH.blk F b O
  ·rw[e]at J;exact hH.blk id b (B id D _ b J)
structure Fj (C:ff) (st:RS) (a:Act) (w:World) (U:Nat->Prop) (ρ:Nat->Option Value):Prop where
 tm:dA w U ρ st.tmps a.tmps.toList
 hp:jI C w U ρ st.hp
 new:∀id,st.heap.length<=id->ρ id=Q2
 kn:∀d b,st.known.lookup d=Q1 b->a.tmps[d]?=Q1 (.bool b)
 df:a.defers=[]
 r0:∀id v,C.ρ0 id=Q1 v->ρ id=Q1 v
theorem Iy{E:bZ}{tmps:List AV}{known:List (Nat×Bool)}{a:Act}(u:dA w U ρ tmps a.tmps.toList)(B:∀d b,known.lookup d=Q1 b->a.tmps[d]?=Q1 (.bool b))(z:tr E.gl w U)(x:Operand):
  Rv w U ρ (xe E tmps known x) (a.eval x):=by
 cases x with
 | tmp t=>
  simp only[xe,Act.eval];cases G:known.lookup t with
  | some b=>
   have:=B t b G;simp only[pp,this,dv];exact .kb b
  | none=>
   by_cases D:t<Io tmps
   ·have o:t<a.tmps.toList.length:=by rw[<-u.len];exact D
    have F:a.tmps.getD t undef=a.tmps.toList[t]:=by
     simp only[Array.length_toList]at o;simp[Array.getD,o]
    rw[F];exact u.rv t _ _ (by simp_all) (zU o)
   ·rw[aS,eC (Nat.le_of_not_lt D)];exact .any _
 |const v=>exact qY v
 |global g=>exact(z g).mono (ae _) (λ_ _ _=>rfl) (λ_ _ h=>h) (λ_ _ h=>by cases h)
 |func f=>simp only[xe,Act.eval];exact .clo (.func f) [] [] [] [] rfl rfl sw sw
theorem bK:∀(wr:List (Nat×AO))(h:List AO),(nN h wr).length=Io h
 |[],_=>rfl
 |(i,o)::r,h=>by simp[nN,bK r]
theorem sA:∀(wr:List (Nat×AO))(h:List AO)(id:Nat),(¬∃o,(id,o)∈wr)->(nN h wr).getD id .dead=h.getD id .dead
 |[],_,_,_=>rfl
 | (i,o)::r,h,id,hn=>by
  rw[nN,sA r _ id (λ⟨z,u⟩=>hn ⟨z,by simp[u]⟩)];grind
theorem sB:∀(wr:List (Nat×AO))(h:List AO)(id:Nat),(∀p∈wr,p.1<Io h)->(∃o,(id,o)∈wr)->∃o,(id,o)∈wr/\(nN h wr).getD id .dead=o
 |[],_,_,_,⟨_,h⟩=>by simp at h
 | (i,o)::r,h,id,hl,hex=>by
  by_cases B:∃o,(id,o)∈r
  ·obtain⟨z,D,F⟩:=sB r (h.set i o) id (λp hp=>by grind) B;exact⟨z,by simp[D],F⟩
  ·obtain⟨z,u⟩:=hex;simp only[bL,cF]at u;rcases u with⟨rfl,rfl⟩|u
   ·refine⟨z,sw,?_⟩;rw[nN,sA r _ _ B];simp_all
   ·exact(B ⟨z,u⟩).elim
theorem Bt{tmps:List AV}{a:Act}{d:Option Tmp}{c:AV}{v:Value}(h:dA w U ρ tmps a.tmps.toList)(F:Rv w U ρ c v):dA w U ρ (qy tmps d c) (a.put d v).tmps.toList:=by
 cases d with
 |none=>exact h
 | some d=>
  simp only[qy,Act.put];refine⟨by simp[h.len],λj z D u o=>?_⟩;simp only[Array.toList_setIfInBounds]at o;by_cases B:d=j
  ·grind
  ·rw[List.getElem?_set_ne B]at u o;exact h.rv j z D u o
theorem G7{known:List (Nat×Bool)}{a:Act}{d:Option Tmp}{v:Value}(h:∀d b,known.lookup d=Q1 b->a.tmps[d]?=Q1 (.bool b)):
  ∀o b,(ua known d).lookup o=Q1 b->(a.put d v).tmps[o]?=Q1 (.bool b):=by
 intro o b u;cases d with
 |none=>exact h o b u
 | some d=>
  simp only[ua]at u;have z:∀(k:List (Nat×Bool)),(k.filter λp=>p.1!=d).lookup o=Q1 b->o≠d/\k.lookup o=Q1 b:=by
   intro k
   induction k with
   |nil=>simp
   | cons p k F=>
    grind
  obtain⟨B,D⟩:=z known u;simp only[Act.put];grind
theorem Dn{hp:Nat->AO}{u:Operand->AV}{o:Oper}(h:Lr hp u o=Q3):
  (iF o.op=Q3->∀x∈o.op.operands.toList,∀id∈(u x).ids,id∈vq hp u o)/\(tM o.op=Q3->∀id∈vq hp u o,∀j∈(hp id).ids,j∈vq hp u o):=by
 unfold Lr at h;constructor
 ·intro z x F id hid;simp only[z,bA,Bool.false_or,aE,ep,F2]at h;exact h.1 id (iB (List.mem_map_of_mem F) hid)
 ·intro z id hid j hj;have B:iF o.op=Q3:=by
   cases D:o.op<;>rw[D]at z<;>simp_all[tM,iF]
  grind
theorem Bl{E:bZ}(hE:zw E){st G:RS}{o:Oper}{a:Act}(h:(FD E o st).val=Q1 G)(z:Fj C st a w U ρ)(I:Wd E.gl C w U)
  (K:Act->World->Prop) (Q:Exit->Act->World->Prop) (hK:∀a' J H ρ',Fj C G a' J H ρ'->Wd E.gl C J H->K a' J):o.wp E.P a w K Q:=by
 unfold FD at h;split at h
 ·rename_i X;simp only[Tr.val_bind,gq]at h;obtain⟨f,hf,h⟩:=h;split at h
  ·rename_i B;simp at h;subst h;obtain⟨Y,T⟩:=Dn X;have hn:∀j,j<f.nw.length->ρ (st.heap.length+j)=Q2:=λj _=>z.new _ ow
   obtain⟨h0,h5⟩:=G0 hE (w:=w) (U:=U) (ρ:=ρ) (a:=a) (fp:=vq st.hp (xe E st.tmps st.known) o) hf (λx _=>Iy z.tm z.kn I.gl x) I.ub I.gl
    ⟨λid _=>z.hp.ob id,λid1 _ h3 _ b=>z.hp.inj id1 h3 b⟩ Y T hn
   refine h0 K Q (λv J H ρ' D=>?_);simp only[ep,aE,aQ]at B
   replace B:∀p∈f.wr,p.1<st.heap.length:=λp hp=>(B p hp).1
   have h4:=sB f.wr st.heap
   obtain⟨O,M,F⟩:=Cp (hp':=λid=>(nN st.heap f.wr++f.nw).getD id .dead) I z.hp D (λ_ _ _=>rfl)
    (λid W=>by
     obtain⟨o',h1,h2⟩:=sB f.wr st.heap id B W;refine⟨o',h1,?_⟩;have:id<st.heap.length:=B _ h1;rw[aS,mR (by rw[bK];exact this),<-aS];exact h2)
    (λj o' hj=>by
     rw[aS,pq (by rw[bK];omega),bK,show st.heap.length+j-st.heap.length=j by omega,hj];rfl)
    (λid Z u=>by
     rcases u with u|u
     ·rw[aS,mR (by rw[bK];exact u),<-aS];exact sA f.wr st.heap id Z
     ·simp only[RS.hp];rw[aS,aS,eC (by simp[bK];omega),eC ow])
   refine hK _ _ H ρ' ⟨Bt ⟨z.tm.len,λj c x hx hv=>F (z.tm.rv j c x hx hv)⟩ D.val,M,?_,G7 z.kn,?_,λid v h=>D.rhon id v (z.r0 id v h)⟩ O
   ·intro id u;simp only[ip,bK]at u;rw[D.rho id (.inr u)];exact z.new id ow
   ·cases hd:o.dst<;>simp[Act.put,z.df]
  ·simp at h
 ·simp at h
theorem nJ{st:RS}{o:Oper}{a:Act}(h:Fj C st a w U ρ):Fj C (mD o st) (a.put o.dst undef) w U ρ:=by
 refine⟨Bt h.tm (.tup [] [] rfl sw),h.hp,h.new,G7 h.kn,?_,h.r0⟩;cases u:o.dst<;>simp[Act.put,h.df]
theorem Vx{E:bZ}{ops:List Oper}{st:RS}{a:Act}(H:Fj C st a w U ρ)(F:tr E.gl w U){j:Nat}{d:Nat}(I:(ops[j]?).bind (·.dst)=Q1 d):
  (∀b,xe E st.tmps st.known (.tmp d)=.kb b->yielded ops.toArray a.tmps j=Q1 b/\a.tmps[d]?=Q1 (.bool b))/\
  (∀b,xe E st.tmps st.known (.tmp d)=.bool b->yielded ops.toArray a.tmps j=Q1 b/\a.tmps[d]?=Q1 (.bool b))/\
  (∀vs,xe E st.tmps st.known (.tmp d)=.tup vs->yielded ops.toArray a.tmps j=Q2):=by
 have h:=Iy (E:=E) H.tm H.kn F (.tmp d);have B:(ops.toArray[j]?).bind (·.dst)=Q1 d:=by simpa using I
 have o:∀b,a.eval (.tmp d)=.bool b->yielded ops.toArray a.tmps j=Q1 b/\a.tmps[d]?=Q1 (.bool b):=by
  intro b u;simp only[Act.eval,pp]at u;have:a.tmps[d]?=Q1 (.bool b):=by
   cases D:a.tmps[d]? with
   |none=>rw[D]at u;simp[undef]at u
   |some v=>rw[D]at u;simp at u;rw[u]
  exact⟨by unfold yielded;rw[B];simp[this],this⟩
 refine⟨λb u=>?_,λb u=>?_,λvs G=>?_⟩
 ·rw[u]at h;generalize z:a.eval (.tmp d)=x at h;cases h;exact o b z
 ·rw[u]at h;generalize z:a.eval (.tmp d)=x at h;cases h;exact o b z
 ·rw[G]at h;generalize z:a.eval (.tmp d)=x at h;cases h with
  |tup _ xs _ _=>
  simp only[Act.eval,pp]at z;cases D:a.tmps[d]? with
  |none=>unfold yielded;rw[B];simp[D]
  |some v=>rw[D]at z;simp at z;subst z;unfold yielded;rw[B];simp[D]
theorem oy{st:RS}{a:Act}{d:Nat}{b:Bool}(o:Fj C st a w U ρ)(B:a.tmps[d]?=Q1 (.bool b)):Fj C {st with known:=(d,b)::st.known} a w U ρ:=by
 refine⟨o.tm,o.hp,o.new,λz u h=>?_,o.df,o.r0⟩;rw[List.lookup_cons]at h;split at h
 ·simp_all
 ·exact o.kn z u h
theorem Th{E:bZ}(M:zw E){ops:List Oper}{st J:RS}{o:Oper}{a:Act}(h:(uA E ops st o).val=Q1 J)(B:Fj C st a w U ρ)(z:Wd E.gl C w U)
  (K:Act->World->Prop) (Q:Exit->Act->World->Prop) (D:∀a' w' U' ρ',Fj C J a' w' U' ρ'->Wd E.gl C w' U'->K a' w'):
  if Region.wanted o (yielded ops.toArray a.tmps)then o.wp E.P a w K Q\/(o.asks E.P a w/\LetsOut Q)else K (a.put o.dst undef) w:=by
 unfold uA at h;split at h
 ·rename_i H;simp only[Region.wanted,H,if_true];exact .inl (Bl M h B z K Q D)
 ·rename_i j G H;split at h
  ·rename_i W;simp at h;subst h;have I:yielded ops.toArray a.tmps j=Q2:=by
    have X:(ops.toArray[j]?).bind (·.dst)=Q2:=by simpa using W
    unfold yielded;rw[X];rfl
   simp only[Region.wanted,H,I];rw[if_neg sw];exact D _ _ U ρ (nJ B) z
  ·rename_i d W;obtain⟨Y,T,Z⟩:=Vx (E:=E) B z.gl W;split at h
   ·rename_i b O;obtain⟨I,_⟩:=Y b O;simp only[Region.wanted,H,I];split at h
    ·rename_i F;simp at F;subst F;rw[if_pos sw];exact .inl (Bl M h B z K Q D)
    ·rename_i F;simp at h;subst h;rw[if_neg (by simpa using F)];exact D _ _ U ρ (nJ B) z
   ·rename_i vs h0;simp at h;subst h;simp only[Region.wanted,H,Z vs h0];rw[if_neg sw];exact D _ _ U ρ (nJ B) z
   ·rename_i b O;obtain⟨I,u⟩:=T b O;simp only[Region.wanted,H,I];cases b
    ·simp only[Q8,zA,if_false]at h;cases G
     ·simp only[zA,if_false]at h;rw[if_pos sw];exact .inl (Bl M h (oy B u) z K Q D)
     ·simp at h;subst h;rw[if_neg sw];exact D _ _ U ρ (nJ (oy B u)) z
    ·simp only[Q8,if_true]at h;cases G
     ·simp at h;subst h;rw[if_neg sw];exact D _ _ U ρ (nJ (oy B u)) z
     ·simp only[if_true]at h;rw[if_pos sw];exact .inl (Bl M h (oy B u) z K Q D)
   ·simp at h
theorem Dc{E:bZ}(W:zw E){ops:List Oper}{Q:Exit->Act->World->Prop}{B:RS}(X:∀G D F T,Fj C B G D F T->Wd E.gl C D F->Q .normal G D):
  ∀(r:List Oper)(k:Nat)(st:RS)(a:Act)(w:World)(U:Nat->Prop)(ρ:Nat->Option Value),r=ops.drop k->(cK E ops r st).val=Q1 B->Fj C st a w U ρ->Wd E.gl C w U->
   wpOps E.P ops.toArray Q (List.range' k (Io r)) a w
 | [],k,st,a,w,U,ρ,_,h,J,H=>by
  simp[cK]at h;subst h;exact X a w U ρ J H
 | o::r,k,st,a,w,U,ρ,hr,h,J,H=>by
  simp only[cK,Tr.val_bind,gq]at h;obtain⟨O,Y,Z⟩:=h;have z:ops.toArray[k]?=Q1 o:=by
   have:ops[k]?=Q1 o:=by
    have:=congrArg (·[0]?) hr;simpa[F4]using this.symm
   simpa using this
  have u:r=ops.drop (k+1):=by
   have:=congrArg List.tail hr;simpa using this
  simp only[dU,List.range'_succ,wpOps,z];exact Th W Y J H _ _ (λG D F T M I=>Dc W X r (k+1) O G D F T u Z M I)
end
structure A5 (E:bZ) (ops:List Oper) (o:Oper) (s s':RS) (r:FZ):Prop where
 /--what is known of slots is so -/
 tm:∃v,s'.tmps=qy s.tmps o.dst v
 len:s.heap.length<=s'.heap.length
 way:(∃(kn:List (Nat×Bool))(f:fT),(∀d b,kn.lookup d=Q1 b->s.tmps.getD d .any=.bool b\/s.tmps.getD d .any=.kb b)/\
   (∀j want,o.guard=Q1 (j,want)->∃d,(ops[j]?).bind (·.dst)=Q1 d/\(s.tmps.getD d .any=.bool want\/s.tmps.getD d .any=.kb want))/\
   (qa E (xe E s.tmps kn) s.hp s.heap.length o).val=Q1 f/\Lr s.hp (xe E s.tmps kn) o=Q3/\s'.tmps=qy s.tmps o.dst f.val/\s'.heap=nN s.heap f.wr++f.nw/\
   (∀p∈f.wr,p.1<s.heap.length/\p.1∈vq s.hp (xe E s.tmps kn) o)/\r={fp:=vq s.hp (xe E s.tmps kn) o,wr:=f.wr.map (·.1),base:=s.heap.length,nw:=f.nw.length})\/
  ((∃j want,o.guard=Q1 (j,want)/\((ops[j]?).bind (·.dst)=Q2\/∃d,(ops[j]?).bind (·.dst)=Q1 d/\(s.tmps.getD d .any=.bool (!want)\/s.tmps.getD d .any=.kb (!want)\/∃vs,s.tmps.getD d .any=.tup vs)))/\
   s'.tmps=qy s.tmps o.dst (.tup [])/\s'.heap=s.heap/\r={})
def YC(s:RS):Prop:=∀d b,s.known.lookup d=Q1 b->s.tmps.getD d .any=.bool b\/s.tmps.getD d .any=.kb b
theorem qe{known:List (Nat×Bool)}{d:Option Tmp}{o:Nat}{b:Bool}(h:(ua known d).lookup o=Q1 b):known.lookup o=Q1 b/\d≠Q1 o:=by
 cases d with
 |none=>exact⟨h,sw⟩
 | some d=>
  simp only[ua]at h;have u:∀(k:List (Nat×Bool)),(k.filter λp=>p.1!=d).lookup o=Q1 b->o≠d/\k.lookup o=Q1 b:=by
   intro k
   induction k with
   |nil=>simp
   | cons p k z=>
    grind
  grind
theorem rG{tmps:List AV}{d:Option Tmp}{v:AV}{s:Nat}(h:d≠Q1 s):(qy tmps d v).getD s .any=tmps.getD s .any:=by
 cases d with
 |none=>rfl
 | some d=>
  simp only[qy,aS];simp_all
theorem YC.step{s:RS}{o:Oper}{tm:List AV}{v:AV}(h:YC s)(u:tm=qy s.tmps o.dst v):∀d b,(ua s.known o.dst).lookup d=Q1 b->tm.getD d .any=.bool b\/tm.getD d .any=.kb b:=by
 intro d b D;obtain⟨z,B⟩:=qe D;rw[u,rG B];exact h d b z
theorem vt{E:bZ}{ops:List Oper}{o:Oper}{s B:RS}(F:List (Nat×Bool))(h:(FD E o {s with known:=F}).val=Q1 B)(G:∀d b,F.lookup d=Q1 b->s.tmps.getD d .any=.bool b\/s.tmps.getD d .any=.kb b)
  (M:∀j u,o.guard=Q1 (j,u)->∃d,(ops[j]?).bind (·.dst)=Q1 d/\(s.tmps.getD d .any=.bool u\/s.tmps.getD d .any=.kb u)):∃r,A5 E ops o s B r/\B.log=s.log++[r]/\YC B:=by
 unfold FD at h;split at h
 ·rename_i D;simp only[Tr.val_bind,gq]at h;obtain⟨f,J,h⟩:=h;split at h
  ·rename_i z;simp at h;subst h;refine⟨_,⟨⟨f.val,rfl⟩,by simp[bK],.inl ⟨F,f,G,M,J,D,rfl,rfl,?_,rfl⟩⟩,rfl,?_⟩
   ·intro p hp;simp only[ep,aE,aQ,F2]at z;exact z p hp
   ·intro d b O;obtain⟨H,I⟩:=qe O;show(qy s.tmps o.dst f.val).getD d .any=.bool b\/(qy s.tmps o.dst f.val).getD d .any=.kb b;rw[rG I];exact G d b H
  ·simp at h
 ·simp at h
theorem lO{E:bZ}{ops:List Oper}{o:Oper}{s:RS}(u:List (Nat×Bool))(F:∀d b,u.lookup d=Q1 b->s.tmps.getD d .any=.bool b\/s.tmps.getD d .any=.kb b)
  (D:∃j h,o.guard=Q1 (j,h)/\((ops[j]?).bind (·.dst)=Q2\/∃d,(ops[j]?).bind (·.dst)=Q1 d/\(s.tmps.getD d .any=.bool (!h)\/s.tmps.getD d .any=.kb (!h)\/∃vs,s.tmps.getD d .any=.tup vs))):
  ∃r,A5 E ops o s (mD o {s with known:=u}) r/\(mD o {s with known:=u}).log=s.log++[r]/\YC (mD o {s with known:=u}):=by
 refine⟨{},⟨⟨_,rfl⟩,ae _,.inr ⟨D,rfl,rfl,rfl⟩⟩,rfl,?_⟩;intro d b G;obtain⟨z,B⟩:=qe G;show(qy s.tmps o.dst (.tup [])).getD d .any=.bool b\/(qy s.tmps o.dst (.tup [])).getD d .any=.kb b;rw[rG B];exact F d b z
theorem ET{E:bZ}{ops:List Oper}{o:Oper}{s Z:RS}(h:(uA E ops s o).val=Q1 Z)(H:YC s):∃r,A5 E ops o s Z r/\Z.log=s.log++[r]/\YC Z:=by
 have z:∀d x,xe E s.tmps s.known (.tmp d)=x->(∀b,x=.bool b->s.tmps.getD d .any=.bool b)/\(∀b,x=.kb b->s.tmps.getD d .any=.bool b\/s.tmps.getD d .any=.kb b)/\(∀vs,x=.tup vs->s.tmps.getD d .any=.tup vs):=by
  intro d x Y;simp only[xe]at Y;cases M:s.known.lookup d with
  | some b=>
   rw[M]at Y;subst Y;exact⟨sw,λI T=>by cases T;exact H d _ M,sw⟩
  | none=>
   simp_all
 unfold uA at h;split at h
 ·rename_i G;exact vt s.known h H (λj u W=>by rw[G]at W;cases W)
 ·rename_i j u G;split at h
  ·rename_i J;simp at h;subst h;exact lO s.known H ⟨j,u,G,.inl J⟩
  ·rename_i d J;split at h
   ·rename_i b T;have X:=(z d _ T).2.1 b rfl;split at h
    ·rename_i D;simp at D;subst D;exact vt s.known h H (λj' B W=>by simp_all)
    ·rename_i D;simp at h;subst h;have:b=!u:=by revert D;cases b<;>cases u<;>simp
     subst this;exact lO s.known H ⟨j,u,G,.inr ⟨d,J,X.elim .inl (λh=>.inr (.inl h))⟩⟩
   ·rename_i vs h0;simp at h;subst h;exact lO s.known H ⟨j,u,G,.inr ⟨d,J,.inr (.inr ⟨vs,(z d _ h0).2.2 vs rfl⟩)⟩⟩
   ·rename_i b T;have X:=(z d _ T).1 b rfl;have F:∀x,x=b->∀O I,((d,x)::s.known).lookup O=Q1 I->s.tmps.getD O .any=.bool I\/s.tmps.getD O .any=.kb I:=by
     intro x Y O I M;rw[List.lookup_cons]at M;split at M
     ·simp_all
     ·exact H O I M
    cases b
    ·simp only[Q8,zA,if_false]at h;cases u
     ·simp only[zA,if_false]at h;exact vt _ h (F Q4 rfl) (λj' B W=>by simp_all)
     ·simp at h;subst h;exact lO _ (F Q4 rfl) ⟨j,Q3,G,.inr ⟨d,J,.inl X⟩⟩
    ·simp only[Q8,if_true]at h;cases u
     ·simp at h;subst h;exact lO _ (F Q3 rfl) ⟨j,Q4,G,.inr ⟨d,J,.inl X⟩⟩
     ·simp only[if_true]at h;exact vt _ h (F Q3 rfl) (λj' B W=>by simp_all)
   ·simp at h
theorem ta{E:bZ}{ops:List Oper}:∀(r:List Oper)(s sN:RS),(cK E ops r s).val=Q1 sN->YC s->∃(S:Nat->RS)(R:Nat->FZ),S 0=s/\S (Io r)=sN/\
  (∀i o,r[i]?=Q1 o->A5 E ops o (S i) (S (i+1)) (R i))/\sN.log=s.log++(List.range (Io r)).map R/\YC sN
 | [],s,sN,h,z=>by
  simp[cK]at h;subst h;exact⟨λ_=>s,λ_=>{},rfl,rfl,sw,sw,z⟩
 | o::r,s,sN,h,z=>by
  simp only[cK,Tr.val_bind,gq]at h;obtain⟨M,G,H⟩:=h;obtain⟨J,T,u,B⟩:=ET G z;obtain⟨S,R,e0,F,O,I,D⟩:=ta r M sN H B;refine⟨λi=>match i with|0=>s|i+1=>S i,λi=>match i with|0=>J|i+1=>R i,rfl,F,?_,?_,D⟩
  ·grind
  ·rw[I,u];simp[List.range_succ_eq_map,uH]
inductive YG (ops:List Oper):Nat->Nat->Prop
 |edge {j:Nat} {o:Oper} {e:Edge} (ho:ops[j]?=Q1 o) (he:e∈o.after.toList) (hb:Region.binds .any e=Q3):YG ops e.on j
 |step {i j:Nat} {o:Oper} {e:Edge} (ho:ops[j]?=Q1 o) (he:e∈o.after.toList) (hb:Region.binds .any e=Q3) (h:YG ops i e.on):YG ops i j
theorem H2{ops:List Oper}:∀(r:List Oper)(acc:List (List Nat)),r=ops.drop (Io acc)->(∀j i,i∈acc.getD j []->YG ops i j)->∀j i,i∈(ZP r acc).getD j []->YG ops i j
 |[],acc,_,h=>h
 | o :: r,acc,hr,h=>by
  simp only[ZP];have z:ops[Io acc]?=Q1 o:=by
   have:=congrArg (·[0]?) hr;simpa[F4]using this.symm
  refine H2 r _ (by
   have:=congrArg List.tail hr;simpa using this) ?_
  intro j i u;rw[aS]at u;by_cases G:j<Io acc
  ·grind
  ·by_cases B:j=Io acc
   ·subst B;rw[pq (ae _)]at u;simp only[Nat.sub_self,List.getElem?_cons_zero,dv,uJ]at u;obtain⟨e,F,u⟩:=u;split at u
    ·rename_i D;rcases bL.1 u with rfl|u
     ·exact .edge z F D
     ·exact .step z F D (h _ _ u)
    ·simp at u
   grind
section
variable {E:bZ} {C:ff} {ops:List Oper} {S:Nat->RS} {R:Nat->FZ}
structure pF (E:bZ) (C:ff) (ops:List Oper) (S:Nat->RS) (R:Nat->FZ) (L:Nat->Prop) (a:Act) (w:World) (U:Nat->Prop) (ρ:Nat->Option Value) (hpD:Nat->AO):Prop where
 cl:∀(j:Nat)(o:Oper)(e:Edge),ops[j]?=Q1 o->L j->e∈o.after.toList->Region.binds .any e=Q3->L e.on
 W:Wd E.gl C w U
 H:jI C w U ρ hpD
 tl:a.tmps.size=(S 0).tmps.length
 tm:∀(s k:Nat),k<=Io ops->(∀(j:Nat)(o:Oper),ops[j]?=Q1 o->o.dst=Q1 s->(L j↔j<k))->Rv w U ρ ((S k).tmps.getD s .any) (a.tmps.getD s undef)
 hp:∀(id k:Nat),k<=Io ops->(∀j,j<Io ops->da (R j) id=Q3->(L j↔j<k))->(S k).hp id=hpD id
 rn:∀id,(S 0).heap.length<=id->(∀j,j<Io ops->L j->gv (R j) id=Q4)->ρ id=Q2
 df:a.defers=[]
 r0:∀id v,C.ρ0 id=Q1 v->ρ id=Q1 v
theorem A5.slots{o:Oper}{s u:RS}{r:FZ}(h:A5 E ops o s u r){t:Nat}(z:o.dst≠Q1 t):u.tmps.getD t .any=s.tmps.getD t .any:=by
 obtain⟨v,B⟩:=h.tm;rw[B,rG z]
theorem A5.tlen{o:Oper}{s u:RS}{r:FZ}(h:A5 E ops o s u r):u.tmps.length=s.tmps.length:=by
 obtain⟨v,z⟩:=h.tm;rw[z];cases o.dst<;>simp[qy]
theorem A5.wrfp{o:Oper}{s u:RS}{r:FZ}(h:A5 E ops o s u r):∀id∈r.wr,id∈r.fp:=by
 rcases h.way with⟨B,f,_,_,_,_,_,_,z,rfl⟩|⟨_,_,_,rfl⟩
 ·grind
 ·simp
theorem A5.news{o:Oper}{s z:RS}{r:FZ}(h:A5 E ops o s z r){id:Nat}(u:gv r id=Q3):s.heap.length<=id/\id<z.heap.length:=by
 rcases h.way with⟨F,f,_,_,_,_,_,B,D,rfl⟩|⟨_,_,_,rfl⟩
 ·simp[gv]at u;rw[B];simp[bK];omega
 ·simp[gv]at u
theorem A5.objs{o:Oper}{s F:RS}{r:FZ}(h:A5 E ops o s F r){id:Nat}(D:da r id=Q4):F.hp id=s.hp id:=by
 rcases h.way with⟨M,f,_,_,_,_,_,u,J,rfl⟩|⟨_,_,u,rfl⟩
 ·simp[da,gv]at D;obtain⟨G,H⟩:=D;simp only[RS.hp,u];by_cases z:id<s.heap.length
  ·rw[aS,mR (by rw[bK];exact z),<-aS];exact sA f.wr s.heap id (λ⟨I,B⟩=>G I B)
  ·rw[aS,aS,eC (by simp[bK];have:=H ow;omega),eC ow]
 ·simp only[RS.hp,u]
theorem mE(B:∀(i:Nat)(o:Oper),ops[i]?=Q1 o->A5 E ops o (S i) (S (i+1)) (R i)){s:Nat}:∀(d i:Nat),i+d<=Io ops->(∀(j:Nat)(o:Oper),ops[j]?=Q1 o->o.dst=Q1 s->i<=j->j<i+d->False)->
  (S (i+d)).tmps.getD s .any=(S i).tmps.getD s .any
 |0,_,_,_=>rfl
 | d+1,i,G,h=>by
  have z:i+d<Io ops:=by omega
  have u:ops[i+d]?=Q1 ops[i+d]:=zU z;rw[show i+(d+1)=(i+d)+1 by omega,(B _ _ u).slots (λe=>h _ _ u e ow ow)];exact mE B d i ow (λj o H F D I=>h j o H F D ow)
theorem kA(B:∀(i:Nat)(o:Oper),ops[i]?=Q1 o->A5 E ops o (S i) (S (i+1)) (R i)){id:Nat}:∀(d i:Nat),i+d<=Io ops->(∀j,i<=j->j<i+d->da (R j) id=Q4)->
  (S (i+d)).hp id=(S i).hp id
 |0,_,_,_=>rfl
 | d+1,i,F,h=>by
  have z:i+d<Io ops:=by omega
  have u:ops[i+d]?=Q1 ops[i+d]:=zU z;rw[show i+(d+1)=(i+d)+1 by omega,(B _ _ u).objs (h _ ow ow)];exact kA B d i ow (λj D G=>h j D ow)
theorem kP(z:∀(i:Nat)(o:Oper),ops[i]?=Q1 o->A5 E ops o (S i) (S (i+1)) (R i)):∀(d i:Nat),i+d<=Io ops->(S i).heap.length<=(S (i+d)).heap.length
 |0,_,_=>ae _
 | d+1,i,B=>by
  have u:i+d<Io ops:=by omega
  have h:ops[i+d]?=Q1 ops[i+d]:=zU u;exact bt (kP z d i ow) (z _ _ h).len
theorem E9(z:∀(i:Nat)(o:Oper),ops[i]?=Q1 o->A5 E ops o (S i) (S (i+1)) (R i)):∀i,i<=Io ops->(S i).tmps.length=(S 0).tmps.length
 |0,_=>rfl
 | i+1,h=>by
  have u:ops[i]?=Q1 ops[i]:=zU h;rw[(z _ _ u).tlen,E9 z i ow]
theorem DK(u:∀(i:Nat)(o:Oper),ops[i]?=Q1 o->A5 E ops o (S i) (S (i+1)) (R i)){i j id:Nat}(D:i<Io ops)(F:j<Io ops)(z:gv (R i) id=Q3)(B:gv (R j) id=Q3):i=j:=by
 have gi:=(u i _ (zU D)).news z;have G:=(u j _ (zU F)).news B;rcases Nat.lt_trichotomy i j with h|h|h
 ·have:=kP u (j-(i+1)) (i+1) ow;grind
 ·exact h
 ·have:=kP u (i-(j+1)) (j+1) ow;grind
structure T3 (ops:List Oper) (R:Nat->FZ) (i j:Nat) (a:Nat) (oi oj:Oper):Prop where
 hi:ops[i]?=Q1 oi
 hj:ops[j]?=Q1 oj
 opi:∃t x k,oi.op=.lookup t x k Q4
 opj:∃t m k,oj.op=.mapEntry t m k
 fpi:(R i).fp=[a]
 wri:(R i).wr=[]
 nwi:(R i).nw=0
 wrj:(R j).wr=[a]
 nwj:(R j).nw=0
 sl:(iE oi.dst.toList (eU ops oj)||iE oi.dst.toList oj.dst.toList||iE (eU ops oi) oj.dst.toList)=Q4
 lt:i<j
 oth:∀l,l<Io ops->da (R l) a=Q3->l<i\/l=j\/(j<l/\YG ops i l)
structure lX (ops:List Oper) (R:Nat->FZ):Prop where
 back:∀(j:Nat)(o:Oper)(e:Edge),ops[j]?=Q1 o->e∈o.after.toList->Region.binds .any e=Q3->e.on<j
 anc:∀(i j:Nat)(oi oj:Oper),i<j->ops[i]?=Q1 oi->ops[j]?=Q1 oj->uS ops oi oj (R i) (R j)=Q3->YG ops i j\/∃a,T3 ops R i j a oi oj
theorem Ow{log:List FZ}(h:vL ops log=Q3)(B:log=(List.range (Io ops)).map R):lX ops R:=by
 unfold vL at h;simp only[aE,ep]at h;obtain⟨X,Y⟩:=h;constructor
 ·intro j o e J he hb;have u:j<Io ops:=(dn.1 J).1;have D:(o,j)∈ops.zipIdx:=by
   rw[List.mem_zipIdx_iff_getElem?];exact J
  have:=X _ D e he;simpa[hb]using this
 ·intro i j oi oj z H F hc;have u:j<Io ops:=(dn.1 F).1;have:=Y j (pL.2 u) i (pL.2 z);have G:∀k,k<Io ops->log[k]?=Q1 (R k):=by intro k hk;rw[B];simp[yW hk]
  have li:log[i]?=Q1 (R i):=G i ow;have lj:log[j]?=Q1 (R j):=G j u;simp only[H,F,li,lj,hc,bA,Bool.false_or,mP,F2]at this;rcases this with this|this
  ·exact .inl (H2 ops [] sw sw j i this)
  ·unfold X9 at this;split at this
   ·rename_i t x k t' m k' a b M O T W;simp only[aE,sT,bh,ep,List.isEmpty_iff,pL]at this;obtain⟨⟨⟨⟨⟨t1,t2⟩,t3⟩,t4⟩,t5⟩,t6⟩:=this;subst t1;refine .inr ⟨b,H,F,⟨t,x,k,M⟩,⟨t',m,k',O⟩,T,t2,t3,W,t4,t5,z,λl I ht=>?_⟩;have:=t6 l I;rw[G l I]at this;simp only[ht,bA,Bool.false_or,mP,aQ,bh,aE,F2]at this;rcases this with(this|this)|⟨this,Z⟩
    ·exact .inl this
    ·exact .inr (.inl this)
    ·exact .inr (.inr ⟨this,H2 ops [] sw sw l i Z⟩)
   ·cases this
theorem T3.touch{i j a:Nat}{o oj:Oper}(h:T3 ops R i j a o oj)(id:Nat):da (R i) id=Q4:=by
 unfold da gv;rw[h.wri,h.nwi];simp
theorem rD{a b:List Nat}:iE a b=Q3↔∃x,x∈a/\x∈b:=by simp[iE]
variable {L:Nat->Prop} {a:Act} {w:World} {U:Nat->Prop} {ρ:Nat->Option Value} {hpD:Nat->AO}
theorem pF.anc(h:pF E C ops S R L a w U ρ hpD){i j:Nat}(D:YG ops i j)(B:L j):L i:=by
 induction D with
 |edge z u o=>exact h.cl _ _ _ z B u o
 |step z u o _ F=>exact F (h.cl _ _ _ z B u o)
theorem pF.ready(h:pF E C ops S R L a w U ρ hpD){i j:Nat}{o:Oper}(F:ops[j]?=Q1 o)(G:∀e∈o.after.toList,Region.binds .any e=Q3->L e.on)(D:YG ops i j):L i:=by
 cases D with
 |edge u B z=>simp_all
 |step u B z H=>rw[F]at u;cases u;exact h.anc H (G _ B z)
theorem pF.slotAt(J:lX ops R)(h:pF E C ops S R L a w U ρ hpD){i:Nat}{o:Oper}(H:ops[i]?=Q1 o)(M:¬L i)(T:∀e∈o.after.toList,Region.binds .any e=Q3->L e.on){s:Nat}
  (B:s∈eU ops o\/o.dst=Q1 s):∀(j:Nat)(oj:Oper),ops[j]?=Q1 oj->oj.dst=Q1 s->(L j↔j<i):=by
 intro j oj D O;constructor
 ·intro I;rcases Nat.lt_trichotomy j i with u|rfl|u
  ·exact u
  ·exact(M I).elim
  ·exfalso;have z:(iE o.dst.toList (eU ops oj)||iE o.dst.toList oj.dst.toList||iE (eU ops o) oj.dst.toList)=Q3:=by
    simp only[mP,rD];rcases B with B|B
    ·exact .inr ⟨s,B,by simp[O]⟩
    ·simp_all
   rcases J.anc i j o oj u H D (by unfold uS;simp only[z,Bool.true_or])with F|⟨b,G⟩
   ·exact M (h.anc F I)
   ·rw[G.sl]at z;cases z
 ·intro u;have z:(iE oj.dst.toList (eU ops o)||iE oj.dst.toList o.dst.toList||iE (eU ops oj) o.dst.toList)=Q3:=by
   simp only[mP,rD];rcases B with B|B
   ·simp_all
   ·simp_all
  rcases J.anc j i oj o u D H (by unfold uS;simp only[z,Bool.true_or])with F|⟨b,G⟩
  ·exact h.ready H T F
  ·rw[G.sl]at z;cases z
theorem pF.objAt(J:∀(i:Nat)(o:Oper),ops[i]?=Q1 o->A5 E ops o (S i) (S (i+1)) (R i))(hO:lX ops R)(h:pF E C ops S R L a w U ρ hpD){i:Nat}{o:Oper}(F:ops[i]?=Q1 o)(hn:¬L i)
  (hr:∀e∈o.after.toList,Region.binds .any e=Q3->L e.on) {id:Nat} (G:id∈(R i).fp\/da (R i) id=Q3) (T:∀j a oj,¬(T3 ops R i j a o oj/\L j)):∀j,j<Io ops->da (R j) id=Q3->(L j↔j<i):=by
 intro j hj W;have hi:i<Io ops:=(dn.1 F).1;have B:ops[j]?=Q1 ops[j]:=zU hj;have X:=(J i o F).wrfp;have h0:=(J j _ B).wrfp;have I:id∈(R j).wr\/gv (R j) id=Q3:=by simpa[da]using W
 have H:id∈(R i).fp\/gv (R i) id=Q3:=by
  rcases G with G|G
  ·exact .inl G
  ·have:id∈(R i).wr\/gv (R i) id=Q3:=by simpa[da]using G
   exact this.imp (X id) (λx=>x)
 by_cases D:i=j
 ·simp_all
 have u:∀(Y oj:Oper),uS ops Y oj (R i) (R j)=Q3/\uS ops oj Y (R j) (R i)=Q3:=by
  intro Y oj;unfold uS;simp only[mP,rD,List.any_eq_true];rcases H with H|H<;>rcases I with I|I
  ·grind
  ·grind
  ·grind
  ·exact(D (DK J hi hj H I)).elim
 constructor
 ·intro Z;rcases Nat.lt_or_gt_of_ne D with z|z
  ·rcases hO.anc i j o _ z F B (u o _).1 with M|⟨b,O⟩
   ·exact(hn (h.anc M Z)).elim
   ·exact(T _ _ _ ⟨O,Z⟩).elim
  ·exact z
 ·intro z;rcases hO.anc j i _ o z B F (u o _).2 with M|⟨b,O⟩
  ·exact h.ready F hr M
  ·rw[O.touch id]at W;cases W
theorem Tt(es:List ((Int×Int×zD)×Int))(v k:Int×Int×zD):gB (jZ es v) k=gB es k:=by
 unfold jZ;cases nM es v with
 |true=>rfl
 | false=>
  simp only[ao,gB,List.find?_append];grind
theorem FB{P:Program}{hp z:Nat->AO}{t:TypeId}{x i:AV}{f:fT}{b:Nat}{es:List ((Int×Int×zD)×Int)}{v:Int×Int×zD}(h:(lr P hp t x i false).val=some f)(I:∀id∈x.ids,id=b)
  (F:hp b=.vmap Q4 es) (G:z b=.vmap Q4 (jZ es v)):(lr P z t x i Q4).val=Q1 f:=by
 cases x with
 | mp id=>
  have:id=b:=I id (by simp[AV.ids]);subst this;unfold lr at h⊢;cases D:P.underlying t with
  |none=>simp[D]at h
  | some u=>
   cases u with
   | map J O=>
    simp only[D]at h⊢;cases B:P.underlying J with
    |none=>simp[B]at h
    | some M=>
     cases M with
     |string=>grind
     | struct T=>
      simp only[B]at h⊢;split at h
      ·rename_i H;rw[if_pos H];cases o:Tu i with
       |none=>simp[o]at h
       | some W=>
        simp only[o,F,zA,if_false]at h;simp only[G,zA,if_false,Tt];exact h
      ·simp at h
     |_=>simp[B]at h
   |_=>simp[D]at h
 | _=>
  exfalso;unfold lr at h;split at h
  ·split at h
   ·split at h<;>simp_all
   ·simp_all
   ·simp at h
  ·simp at h
end
section
variable {E:bZ} {C:ff} {ops:List Oper} {S:Nat->RS} {R:Nat->FZ} {L:Nat->Prop} {a:Act} {w:World} {U:Nat->Prop} {ρ:Nat->Option Value} {hpD:Nat->AO}
theorem XA{a:Act}{d:Option Tmp}{v:Value}{s:Nat}(h:d≠Q1 s):(a.put d v).tmps.getD s undef=a.tmps.getD s undef:=by
 cases d with
 |none=>rfl
 | some d=>
  simp only[Act.put,pp];simp_all
theorem XB{a:Act}{d:Option Tmp}{v:Value}:(a.put d v).tmps.size=a.tmps.size:=by
 cases d<;>simp[Act.put]
theorem OA{a:Act}{d:Option Tmp}{v:Value}:(a.put d v).defers=a.defers:=by
 cases d<;>rfl
theorem Me{a:Act}{s:Nat}{v:Value}{c:AV}{tmps:List AV}(u:Io tmps=a.tmps.size)(h:Rv w U ρ c v):Rv w U ρ ((qy tmps (Q1 s) c).getD s .any) ((a.put (Q1 s) v).tmps.getD s undef):=by
 simp only[qy,Act.put,aS,pp];by_cases o:s<Io tmps
 ·simp_all
 ·rw[yX,if_pos rfl,if_neg o];exact .any _
theorem pF.next(hS:∀(i:Nat)(o:Oper),ops[i]?=Q1 o->A5 E ops o (S i) (S (i+1)) (R i))(hO:lX ops R)(h:pF E C ops S R L a w U ρ hpD){i:Nat}{o:Oper}(Z:ops[i]?=Q1 o)(hn:¬L i)
  (hr:∀e∈o.after.toList,Region.binds .any e=Q3->L e.on) {v:Value} {Y:World} {M:Nat->Prop} {J:Nat->Option Value} {F:Nat->AO} (hW:Wd E.gl C Y M) (hH:jI C Y M J F)
  (X:∀{c:AV}{x:Value},Rv w U ρ c x->Rv Y M J c x) (hv:∀s,o.dst=Q1 s->Rv Y M J ((S (i+1)).tmps.getD s .any) ((a.put o.dst v).tmps.getD s undef))
  (T:∀id,F id=if da (R i) id then(S (i+1)).hp id else hpD id) (W:∀id,gv (R i) id=Q4->J id=ρ id) (H:∀id v,ρ id=Q1 v->J id=Q1 v):
  pF E C ops S R (λj=>L j\/j=i) (a.put o.dst v) Y M J F:=by
 have hi:i<Io ops:=(dn.1 Z).1;refine⟨?_,hW,hH,by rw[XB];exact h.tl,?_,?_,?_,by rw[OA];exact h.df,λid v h'=>H id v (h.r0 id v h')⟩
 ·intro j oj e B O he hb;rcases O with O|rfl
  ·exact .inl (h.cl j oj e B O he hb)
  simp_all
 ·intro s k hk u;by_cases hd:o.dst=Q1 s
  ·have h4:i<k:=(u i o Z hd).1 (.inr rfl);have h5:∀(j:Nat)(oj:Oper),ops[j]?=Q1 oj->oj.dst=Q1 s->i+1<=j->j<k->False:=by
    intro j oj B D h1 h2;have z:=(u j oj B D).2 h2;rcases z with z|rfl
    ·have:=(h.slotAt hO Z hn hr (.inr hd) j oj B D).1 z;omega
    ·omega
   have hb:=mE hS (s:=s) (k-(i+1)) (i+1) ow (λj oj B D h1 h2=>h5 j oj B D h1 ow);grind
  ·rw[XA hd];refine X (h.tm s k hk (λj oj B D=>?_));grind
 ·intro id k hk u;rw[T id];by_cases I:da (R i) id=Q3
  ·rw[if_pos I];have h4:i<k:=(u i hi I).1 (.inr rfl);have hb:=kA hS (id:=id) (k-(i+1)) (i+1) ow (λj h1 h2=>by
    by_cases G:da (R j) id=Q3
    ·exfalso;have z:=(u j ow G).2 ow;rcases z with z|rfl
     ·have:=(h.objAt hS hO Z hn hr (.inr I) (λ_ _ _ hh=>by rw[hh.1.touch id]at I;cases I) j ow G).1 z;omega
     ·omega
    ·simpa using G)
   grind
  ·rw[if_neg I];refine h.hp id k hk (λj hj G=>?_);grind
 ·intro id h0 hnew;have h3:=hnew i hi (.inr rfl);rw[W id h3];exact h.rn id h0 (λj hj O=>hnew j hj (.inl O))
theorem Is{P:Program}{hp:Nat->AO}{t:TypeId}{m k:AV}{f:fT}{b:Nat}(h:(vj P hp t m k).val=Q1 f)(u:f.wr.map (·.1)=[b]):
  ∃es v,hp b=.vmap Q4 es/\f.wr=[(b,.vmap Q4 (jZ es v))]/\f.nw=[]:=by
 unfold vj at h;split at h
 ·split at h
  ·split at h
   ·rename_i id v _;split at h
    ·rename_i es o;split at h
     ·split at h
      ·simp only[Q8]at h;grind
      ·simp at h
     ·simp at h
    ·simp at h
   ·simp at h
  ·simp at h
 ·simp at h
theorem pF.objX(Y:∀(i:Nat)(o:Oper),ops[i]?=Q1 o->A5 E ops o (S i) (S (i+1)) (R i))(hO:lX ops R)(h:pF E C ops S R L a w U ρ hpD){i:Nat}{o:Oper}(O:ops[i]?=Q1 o)(hn:¬L i)
  (hr:∀e∈o.after.toList,Region.binds .any e=Q3->L e.on) {T:List (Nat×Bool)} {f:fT} {n:Nat} (J:(qa E (xe E (S i).tmps T) (S i).hp n o).val=Q1 f) (F:(R i).fp=vq (S i).hp (xe E (S i).tmps T) o)
  (h6:Lr (S i).hp (xe E (S i).tmps T) o=Q3):∃hpX:Nat->AO,(qa E (xe E (S i).tmps T) hpX n o).val=Q1 f/\(∀id,id∈(R i).fp\/da (R i) id=Q3->hpX id=hpD id)/\
   (tM o.op=Q3->∀id∈(R i).fp,∀j∈(hpX id).ids,j∈(R i).fp):=by
 have hi:i<Io ops:=(dn.1 O).1;obtain⟨h8,h0⟩:=Dn h6;by_cases z:∃j b oj,T3 ops R i j b o oj/\L j
 ·obtain⟨j,b,oj,z,x3⟩:=z;have x4:j<Io ops:=(dn.1 z.hj).1;have h9:=z.lt;have H:∀l,l<Io ops->da (R l) b=Q3->(L l↔l<j+1):=by
   intro l hl I;rcases z.oth l hl I with X|rfl|⟨X,h2⟩
   ·refine⟨λ_=>by omega,λ_=>?_⟩;have hc:uS ops ops[l] o (R l) (R i)=Q3:=by
     unfold uS;simp only[mP,rD,List.any_eq_true];have W:b∈(R l).wr\/gv (R l) b=Q3:=by simpa[da]using I
     have bi:b∈(R i).fp:=by rw[z.fpi];simp
     rcases W with W|W
     ·grind
     ·exact .inl (.inr ⟨b,bi,W⟩)
    rcases hO.anc l i _ o X (zU hl) O hc with ha|⟨b',Z⟩
    ·exact h.ready O hr ha
    ·rw[Z.touch b]at I;cases I
   ·simp_all
   ·exact⟨λhL=>(hn (h.anc h2 hL)).elim,λh9=>by omega⟩
  have e1:(S (j+1)).hp b=hpD b:=h.hp b (j+1) ow H;have e2:(S j).hp b=(S i).hp b:=by
   have:=kA Y (id:=b) (j-i) i ow (λl X h2=>by
    by_cases I:da (R l) b=Q3
    ·rcases z.oth l ow I with M|M|⟨M,_⟩<;>omega
    ·simpa using I)
   rwa [show i+(j-i)=j by omega]at this
  obtain⟨t,m,k,x0⟩:=z.opj;rcases(Y j oj z.hj).way with⟨x5,f',_,_,D,_,_,h7,x1,G⟩|⟨_,_,_,G⟩
  ·have hw:f'.wr.map (·.1)=[b]:=by rw[<-z.wrj,G]
   unfold qa at D;rw[x0]at D;simp only at D;obtain⟨es,v,M,h4,h5⟩:=Is D hw;have hb:=(x1 (b,.vmap Q4 (jZ es v)) (by rw[h4];simp)).1;have e3:(S (j+1)).hp b=.vmap Q4 (jZ es v):=by
    simp only[RS.hp,h7,h4,h5,nN,o8];rw[aS,List.getElem?_set_self hb];rfl
   obtain⟨t2,x2,k2,B⟩:=z.opi;refine⟨(S (j+1)).hp,?_,?_,?_⟩
   ·unfold qa at J⊢;rw[B]at J⊢;simp only at J⊢;refine FB J (λid u=>?_) (by rw[<-e2];exact M) e3;have:=h8 (by rw[B];rfl) x2 (by rw[B];simp[Op.operands]) id u;rw[<-F,z.fpi]at this;simpa using this
   ·intro id u;rcases u with u|u
    ·rw[z.fpi]at u;simp_all
    ·rw[z.touch]at u;cases u
   ·intro _ id u;rw[z.fpi]at u;simp at u;subst u;rw[e3];simp[AO.ids]
  ·have:=z.wrj;rw[G]at this;cases this
 ·refine⟨(S i).hp,J,λid u=>h.hp id i ow (h.objAt Y hO O hn hr u (λj a oj hh=>z ⟨j,a,oj,hh⟩)),?_⟩;rw[F];exact h0
theorem zay(hE:zw E)(hS:∀(i:Nat)(o:Oper),ops[i]?=Q1 o->A5 E ops o (S i) (S (i+1)) (R i))(hO:lX ops R)(h:pF E C ops S R L a w U ρ hpD){i:Nat}{o:Oper}(ho:ops[i]?=Q1 o)(hn:¬L i)
  (hr:∀e∈o.after.toList,Region.binds .any e=Q3->L e.on) (K:Act->World->Prop) (Q:Exit->Act->World->Prop)
  (hK:∀a' w' U' ρ' x3,pF E C ops S R (λj=>L j\/j=i) a' w' U' ρ' x3->K a' w'):wpOp E.P ops.toArray Q i K a w:=by
 have hi:i<Io ops:=(dn.1 ho).1;have x1:ops.toArray[i]?=Q1 o:=by simpa using ho
 have h8:=hS i o ho;have J:∀s,s∈eU ops o->Rv w U ρ ((S i).tmps.getD s .any) (a.tmps.getD s undef):=λs hs=>h.tm s i ow (h.slotAt hO ho hn hr (.inl hs))
 have h3:(S i).tmps.length=a.tmps.size:=by rw[E9 hS i ow,h.tl]
 have Y:∀(j:Nat)(B:Bool) d,o.guard=Q1 (j,B)->(ops[j]?).bind (·.dst)=Q1 d->Rv w U ρ ((S i).tmps.getD d .any) (a.tmps.getD d undef):=by
  intro j B d hg O;refine J d ?_;simp only[eU,hg,cJ];exact .inr (by simp[O])
 have M:∀(j:Nat)(d:Nat)(b:Bool),(ops[j]?).bind (·.dst)=Q1 d->a.tmps.getD d undef=.bool b->yielded ops.toArray a.tmps j=Q1 b:=by
  intro j d b O hb;have T:(ops.toArray[j]?).bind (·.dst)=Q1 d:=by simpa using O
  rw[pp]at hb;have:a.tmps[d]?=Q1 (.bool b):=by
   cases ht:a.tmps[d]? with
   |none=>rw[ht]at hb;simp[undef]at hb
   |some v=>rw[ht]at hb;simp at hb;rw[hb]
  unfold yielded;rw[T];simp[this]
 have D:∀(c:AV)(x:Value)(b:Bool),Rv w U ρ c x->(c=.bool b\/c=.kb b)->x=.bool b:=by
  rintro c x b hr (rfl|rfl)<;>cases hr<;>rfl
 unfold wpOp;rw[x1];show(ite (Region.wanted o (yielded ops.toArray a.tmps)) _ _);rcases h8.way with⟨kn,f,a3,hg,hf,x0,h6,x2,a6,hR⟩|⟨⟨j,B,hg,h4⟩,h6,x2,hR⟩
 ·
  have hw:Region.wanted o (yielded ops.toArray a.tmps)=Q3:=by
   unfold Region.wanted;split
   ·rfl
   ·grind
  rw[if_pos hw];refine .inl ?_;obtain⟨a1,_⟩:=Dn x0;have z:(R i).fp=vq (S i).hp (xe E (S i).tmps kn) o:=by rw[hR]
  obtain⟨hpX,a0,u,h7⟩:=h.objX hS hO ho hn hr hf z x0;rw[z]at h7;have x8:∀id,gv (R i) id=Q3↔(S i).heap.length<=id/\id<(S i).heap.length+f.nw.length:=by intro id;rw[hR];simp[gv]
  have F:∀id,da (R i) id=Q3↔(∃o',(id,o')∈f.wr)\/((S i).heap.length<=id/\id<(S i).heap.length+f.nw.length):=by
   intro id;rw[hR];simp[da,gv]
  have h5:∀j,j<f.nw.length->ρ ((S i).heap.length+j)=Q2:=by
   intro j hj;have hm:=kP hS i 0 ow;rw[ek]at hm;refine h.rn _ ow (λj' a2 hL=>?_);by_cases h0:gv (R j') ((S i).heap.length+j)=Q3
   ·have:=DK hS hi a2 ((x8 _).2 ⟨ow,ow⟩) h0;subst this;exact(hn hL).elim
   ·simpa using h0
  obtain⟨a5,_⟩:=G0 hE (w:=w) (U:=U) (ρ:=ρ) (a:=a) (fp:=vq (S i).hp (xe E (S i).tmps kn) o) a0 (λx hx=>by
    cases x with
    | tmp t=>
     have a4:t∈eU ops o:=by
      simp only[eU,cJ,List.mem_filterMap];exact .inl ⟨.tmp t,hx,rfl⟩
     have:=J t a4;simp only[xe,Act.eval];cases hk:kn.lookup t with
     | some b=>
      rw[D _ _ b this (a3 t b hk)];exact .kb b
     |none=>exact this
    |const v=>exact qY v
    |global g=>exact(h.W.gl g).mono (ae _) (λ_ _ _=>rfl) (λ_ _ h=>h) (λ_ _ h=>by cases h)
    |func f=>simp only[xe,Act.eval];exact .clo (.func f) [] [] [] [] rfl rfl sw sw)
   h.W.ub h.W.gl
   ⟨λid G=>by rw[u id (.inl (by rw[z];exact G))];exact h.H.ob id,λid1 h1 x5 h2 b=>by
    rw[u id1 (.inl (by rw[z];exact h1)),u x5 (.inl (by rw[z];exact h2))];exact h.H.inj id1 x5 b⟩ a1 h7 h5
  refine a5 K Q (λv w' U' ρ' X=>?_);have x4:∀p∈f.wr,p.1<(S i).heap.length:=λp hp=>(a6 p hp).1
  have I:∀id,da (R i) id=Q3->(S (i+1)).hp id=(nN (S i).heap f.wr++f.nw).getD id .dead:=by
   intro id _;simp only[RS.hp,x2]
  obtain⟨x9,x7,x6⟩:=Cp (hp':=λid=>if da (R i) id then(S (i+1)).hp id else hpD id) h.W h.H X (λid o' G=>u id (.inr ((F id).2 (.inl ⟨o',G⟩))))
   (λid h9=>by
    obtain⟨o',h1,h2⟩:=sB f.wr (S i).heap id x4 h9;have ht:=(F id).2 (.inl h9);refine⟨o',h1,?_⟩;show(ite (da (R i) id) ((S (i+1)).hp id) (hpD id))=o';rw[if_pos ht,I id ht];have:id<(S i).heap.length:=x4 _ h1;rw[aS,mR (by rw[bK];exact this),<-aS];exact h2)
   (λj o' hj=>by
    have a7:=(dn.1 hj).1;have ht:=(F ((S i).heap.length+j)).2 (.inr ⟨ow,ow⟩);show(ite (da (R i) _) ((S (i+1)).hp _) (hpD _))=o';rw[if_pos ht,I _ ht];rw[aS,pq (by rw[bK];omega),bK,show(S i).heap.length+j-(S i).heap.length=j by omega,hj];rfl)
   (λid a8 G=>by
    grind)
  refine hK _ _ U' ρ' _ (h.next hS hO ho hn hr x9 x7 x6 ?_ (λid=>rfl) (λid G=>X.rho id ?_) X.rhon)
  ·intro s hs;rw[h6,hs];exact Me h3 X.val
  grind
 ·
  have hw:¬Region.wanted o (yielded ops.toArray a.tmps)=Q3:=by
   unfold Region.wanted;rw[hg];simp only[bh];rcases h4 with O|⟨d,O,hv⟩
   ·have T:(ops.toArray[j]?).bind (·.dst)=Q2:=by simpa using O
    unfold yielded;rw[T];simp
   ·have Z:=Y j B d hg O;rcases hv with hv|hv|⟨vs,hv⟩
    ·grind
    ·rw[M j d _ O (D _ _ _ Z (.inr hv))];cases B<;>simp
    ·rw[hv]at Z;have T:(ops.toArray[j]?).bind (·.dst)=Q1 d:=by simpa using O
     generalize hx:a.tmps.getD d undef=x at Z;cases Z with
     |tup _ xs _ _=>
     rw[pp]at hx;unfold yielded;grind
  rw[if_neg hw];have F:∀id,da (R i) id=Q4:=by intro id;rw[hR];simp[da,gv]
  refine hK _ _ U ρ hpD (h.next hS hO ho hn hr h.W h.H (λh=>h) ?_ (λid=>by rw[F id];rfl) (λ_ _=>rfl) (λ_ _ h=>h));intro s hs;rw[h6,hs];exact Me h3 (.tup [] [] rfl sw)
def dL(h:Array Bool)(j:Nat):Prop:=h.getD j Q4=Q3
theorem Om{h:Array Bool}{i:Nat}(o:i<h.size):dL (h.setIfInBounds i Q3)=λj=>dL h j\/j=i:=by
 funext j;unfold dL;simp only[pp];grind
theorem HJ{listed:Array Bool}{i:Nat}(H:listed.size=Io ops)(h:i∈Region.ready .any ops.toArray listed):
  ∃o,ops[i]?=Q1 o/\¬dL listed i/\∀e∈o.after.toList,Region.binds .any e=Q3->dL listed e.on:=by
 unfold Region.ready at h;simp only[List.mem_filter,pL,aE]at h;obtain⟨D,I,B⟩:=h;simp at D;have z:ops[i]?=Q1 ops[i]:=zU D;refine⟨ops[i],z,?_,λe G F=>?_⟩
 ·unfold dL;simp_all
 ·have u:(ops[i].after.all λe=>!Region.binds .any e||listed.getD e.on Q4)=Q3:=by
   have:ops.toArray[i]?=Q1 ops[i]:=by simp
   rw[this]at B;simpa using B
  rw[<-Array.all_toList]at u;have:=ep.1 u e G;simp[F]at this;unfold dL;simp_all
theorem Tb{u:Array Bool}(M:u.size=Io ops)(z:∀(j:Nat)(o:Oper)(e:Edge),ops[j]?=Q1 o->e∈o.after.toList->Region.binds .any e=Q3->e.on<j)
  (h:Region.ready .any ops.toArray u=[]):∀j,j<Io ops->dL u j:=by
 intro j
 induction j using Nat.strongRecOn with
 | _ j O=>
  intro G;apply ke;intro J;have B:ops[j]?=Q1 ops[j]:=zU G;have:j∈Region.ready .any ops.toArray u:=by
   unfold Region.ready;simp only[List.mem_filter,pL,aE];refine⟨by simpa using G,?_,?_⟩
   ·unfold dL at J;simp_all
   ·have H:ops.toArray[j]?=Q1 ops[j]:=by simp
    rw[H];simp only[yZ,dv];rw[<-Array.all_toList,ep];intro e I;by_cases D:Region.binds .any e=Q3
    ·have F:=z j _ e B I D;have:=O e.on F ow;simp only[D,bA,Bool.false_or];exact this
    ·simp[D]
  rw[h]at this;simp at this
theorem M7(Y:zw E)(Z:∀(i:Nat)(o:Oper),ops[i]?=Q1 o->A5 E ops o (S i) (S (i+1)) (R i))(T:lX ops R){Q:Exit->Act->World->Prop}
  (W:∀a w U ρ hpD(L:Nat->Prop),(∀j,j<Io ops->L j)->pF E C ops S R L a w U ρ hpD->Q .normal a w):
  ∀(z:Nat)(u:Array Bool)(a:Act)(w:World)(U:Nat->Prop)(ρ:Nat->Option Value)(hpD:Nat->AO),u.size=Io ops->(u.toList.filter (! ·)).length<=z->
   pF E C ops S R (dL u) a w U ρ hpD->wpAny E.P .any ops.toArray Q z u a w
 | 0,u,a,w,U,ρ,hpD,B,hf,h=>by
  have G:∀b∈u.toList,b=Q3:=by
   have:u.toList.filter (! ·)=[]:=AQ ow;intro b M;have:=List.filter_eq_nil_iff.1 this b M;simpa using this
  have hL:∀j,j<Io ops->dL u j:=by
   intro j hj;unfold dL;rw[pp,tB ow];exact G _ sw
  refine⟨?_,W a w U ρ hpD _ hL h⟩;apply List.eq_nil_iff_forall_not_mem.2;intro i F;obtain⟨o,X,H,_⟩:=HJ B F;grind
 | z+1,u,a,w,U,ρ,hpD,B,hf,h=>by
  refine⟨λI=>W a w U ρ hpD _ (Tb B T.back I) h,λi F=>?_⟩;obtain⟨o,X,H,hr⟩:=HJ B F;have D:i<u.size:=by rw[B];exact(dn.1 X).1
  refine zay Y Z T h X H hr _ Q (λa' w' U' ρ' J h'=>?_);refine M7 Y Z T W z _ a' w' U' ρ' J (by simpa using B) ?_ (by rw[Om D];exact h');have O:u.toList[i]'(by simpa using D)=Q4:=by
   unfold dL at H;rw[pp,tB D]at H;simpa using H
  have h0:∀(l:List Bool)(i:Nat)(F:i<Io l),l[i]=Q4->(l.filter (! ·)).length=((l.set i Q3).filter (! ·)).length+1:=by
   intro l
   induction l with
   |nil=>intro i F;simp at F
   | cons b l ih=>
    intro i F M;cases i with
    |zero=>simp at M;subst M;simp
    | succ i=>
     grind
  grind
theorem ML(hE:zw E){id:Nat}{X sN:RS}(h:(cK E ops ops X).val=Q1 sN)(h0:X.log=[])(h5:X.known=[])(h4:vL ops sN.log=Q3)(z:Fj C X a w U ρ)(Y:Wd E.gl C w U):
  (Code.region id ops.toArray Q3).wp E.P (λe a' w'=>e=.normal/\∃U' ρ',Fj C sN a' w' U' ρ'/\Wd E.gl C w' U') a w:=by
 obtain⟨S,R,e0,eN,J,hL,h6⟩:=ta ops X sN h (by intro d b hl;rw[h5]at hl;simp at hl);have hO:lX ops R:=Ow h4 (by rw[hL,h0];simp);have hd:mv w {w with drawn:=w.drawn+1}:=⟨ae _,rfl,rfl,rfl,λ_ _=>rfl⟩;refine wp_region_any hE.mix (M7 (C:=C) hE J hO ?_ ops.toArray.size (Array.replicate ops.toArray.size Q4) a {w with drawn:=w.drawn+1} U ρ X.hp sw sw ?_)
 ·intro a' w' U' ρ' hpD L u G;refine⟨rfl,U',ρ',⟨⟨?_,λj c v z hv=>?_⟩,?_,?_,?_,G.df,G.r0⟩,G.W⟩
  ·rw[<-eN,E9 J _ (ae _),<-G.tl];simp
  ·have:=G.tm j (Io ops) (ae _) (λj' o' O _=>⟨λ_=>(dn.1 O).1,λD=>u j' D⟩);simp_all
  ·have:sN.hp=hpD:=by
    funext id;have:=G.hp id (Io ops) (ae _) (λj hj _=>⟨λ_=>hj,λD=>u j D⟩);rw[eN]at this;exact this
   rw[this];exact G.H
  ·intro id hid;rw[<-eN]at hid;have h7:=kP J (Io ops) 0 ow;rw[ek]at h7;refine G.rn id ow (λj hj _=>?_);by_cases h3:gv (R j) id=Q3
   ·have:=((J j _ (zU hj)).news h3).2;have h8:=kP J (Io ops-(j+1)) (j+1) ow;grind
   ·simpa using h3
  ·intro d b hl;have I:=G.tm d (Io ops) (ae _) (λj' o' O _=>⟨λ_=>(dn.1 O).1,λD=>u j' D⟩);rw[eN]at I;have Z:a'.tmps.getD d undef=.bool b:=by
    rcases h6 d b hl with h1|h1<;>rw[h1]at I<;>generalize a'.tmps.getD d undef=x at I<;>cases I<;>rfl
   rw[pp]at Z;cases ht:a'.tmps[d]? with
   |none=>rw[ht]at Z;simp[undef]at Z
   |some v=>rw[ht]at Z;simp at Z;rw[Z]
 ·have F:∀j,¬dL (Array.replicate ops.toArray.size Q4) j:=by
   intro j;unfold dL;rw[pp,Array.getElem?_replicate];split<;>simp
  have M:∀{c:AV}{x:Value},Rv w U ρ c x->Rv {w with drawn:=w.drawn+1} U ρ c x:=λh=>h.mono (w:=w) (w':={w with drawn:=w.drawn+1}) (ae _) (λ_ _ _=>rfl) (λ_ _ h=>h) (λ_ _ h=>h)
  refine⟨λj o e ho hL=>(F j hL).elim,⟨Y.ext.trans hd,Y.same,Y.ub,Y.u1,Y.u2,λg=>(Y.gl g).mono (w:=w) (w':={w with drawn:=w.drawn+1}) (ae _) (λ_ _ _=>rfl) (λ_ _ h=>h) (λ_ _ h=>h)⟩,
   ⟨λid=>(z.hp.ob id).mono (w:=w) (w':={w with drawn:=w.drawn+1}) (ae _) (λ_ _ _=>rfl) (λ_ _ h=>h) (λ_ _ h=>h) (λb ho=>⟨rfl,((z.hp.ob id).inU ho).1⟩),z.hp.inj,z.hp.blk⟩,?_,?_,?_,?_,z.df,z.r0⟩
  ·rw[e0];have:=z.tm.len;simp at this;exact this.symm
  ·intro s k hk B;have T:(S k).tmps.getD s .any=(S 0).tmps.getD s .any:=by
    have:=mE J (s:=s) k 0 ow (λj o ho hd h1 h2=>F j ((B j o ho hd).2 ow))
    rwa [ek]at this
   rw[T,e0];by_cases hs:s<X.tmps.length
   ·have h9:s<a.tmps.toList.length:=by rw[<-z.tm.len];exact hs
    refine M (z.tm.rv s _ _ (by simp_all) ?_);simp_all
   ·rw[aS,eC ow];exact .any _
  ·intro id k hk B;have:=kA J (id:=id) k 0 ow (λj h1 h2=>by
    grind)
   simp_all
  ·intro id hid _;rw[e0]at hid;exact z.new id hid
end
structure Cn (C:ff) (st:St) (a:Act) (w:World) (U:Nat->Prop) (ρ:Nat->Option Value):Prop where
 tm:dA w U ρ st.tmps a.tmps.toList
 hp:jI C w U ρ st.hp
 new:∀id,st.heap.length<=id->ρ id=Q2
 df:a.defers=[]
 r0:∀id v,C.ρ0 id=Q1 v->ρ id=Q1 v
section
variable {E:bZ} {C:ff} {a:Act} {w:World} {U:Nat->Prop} {ρ:Nat->Option Value}
theorem Cn.toR{st:St}(h:Cn C st a w U ρ):Fj C {tmps:=st.tmps,heap:=st.heap} a w U ρ:=⟨h.tm,h.hp,h.new,sw,h.df,h.r0⟩
theorem Fj.out{st:RS}(h:Fj C st a w U ρ):Cn C st.out a w U ρ:=⟨h.tm,h.hp,h.new,h.df,h.r0⟩
theorem jL{ops:List Oper}:∀{t:Tr RS}{s:RS},(checked ops t).val=Q1 s->t.val=Q1 s/\vL ops s.log=Q3
 |.err,s,h=>by simp[checked]at h
 | .chk c t,s,h=>by
  cases c
  ·simp[checked,Q8]at h
  ·simp only[checked,Q8,if_true]at h⊢;exact jL h
 | .br c t f,s,h=>by
  cases c
  ·simp only[checked,Q8,zA,if_false]at h⊢;exact jL h
  ·simp only[checked,Q8,if_true]at h⊢;exact jL h
 | .ok st,s,h=>by
  simp only[checked]at h;split at h
  ·simp_all
  ·simp at h
theorem Tc(J:zw E){id:Nat}{ops:List Oper}{o:Bool}{z sN:RS}(T:z.log=[])(I:z.known=[])
  (h:(ite o (checked ops (cK E ops ops z)) (cK E ops ops z)).val=Q1 sN) (O:Fj C z a w U ρ) (M:Wd E.gl C w U):
  (Code.region id ops.toArray o).wp E.P (λe F B=>e=.normal/\∃u D,Fj C sN F B u D/\Wd E.gl C B u) a w:=by
 cases o
 ·simp only[zA,if_false]at h;refine wp_region ?_;have:=Dc (C:=C) J (Q:=λe F B=>e=.normal/\∃u D,Fj C sN F B u D/\Wd E.gl C B u) (λF B u D G H=>⟨rfl,u,D,G,H⟩) ops 0 z a w U ρ sw h O M;rw[<-List.range_eq_range']at this;simpa using this
 ·simp only[if_true]at h;obtain⟨G,H⟩:=jL h;exact ML J G T I H O M
theorem qJ{ops:List Oper}{o:Oper}{s u:RS}(h:(uA E ops s o).val=Q1 u)(D:u.touched=Q4):s.touched=Q4/\u.heap=s.heap:=by
 have B:∀z,(FD E o {s with known:=z}).val=Q1 u->s.touched=Q4/\u.heap=s.heap:=by
  intro z h;unfold FD at h;split at h
  ·simp only[Tr.val_bind,gq]at h;obtain⟨f,_,h⟩:=h;split at h
   ·simp at h;subst h;simp at D;obtain⟨G,H,I⟩:=D;refine⟨G,?_⟩;simp[H,I,nN]
   ·simp at h
  ·simp at h
 have skip:∀z,mD o {s with known:=z}=u->s.touched=Q4/\u.heap=s.heap:=by
  rintro z rfl;exact⟨D,rfl⟩
 unfold uA at h;split at h
 ·exact B s.known h
 ·split at h
  ·simp at h;exact skip s.known h
  ·split at h
   ·split at h
    ·exact B s.known h
    ·simp at h;exact skip s.known h
   ·simp at h;exact skip s.known h
   ·rename_i b _;rename_i F _ _ _ _ _ _;cases b
    ·simp only[Q8,zA,if_false]at h;split at h
     ·simp at h;exact skip _ h
     ·exact B _ h
    ·simp only[Q8,if_true]at h;split at h
     ·exact B _ h
     ·simp at h;exact skip _ h
   ·simp at h
theorem pf{ops:List Oper}:∀(r:List Oper)(s sN:RS),(cK E ops r s).val=Q1 sN->sN.touched=Q4->sN.heap=s.heap
 |[],s,sN,h,_=>by simp[cK]at h;rw[h]
 | o :: r,s,sN,h,u=>by
  simp only[cK,Tr.val_bind,gq]at h;obtain⟨z,D,B⟩:=h;have G:=pf r z sN B u;have I:z.touched=Q4:=by
   have F:∀(r:List Oper)(s sN:RS),(cK E ops r s).val=Q1 sN->sN.touched=Q4->s.touched=Q4:=by
    intro r
    induction r with
    |nil=>intro s sN h u;simp[cK]at h;rw[h];exact u
    | cons o r H=>
     intro s sN h u;simp only[cK,Tr.val_bind,gq]at h;obtain⟨z,D,B⟩:=h;exact(qJ D (H z sN B u)).1
   exact F r z sN B u
  rw[G,(qJ D I).2]
theorem sZ{ops:List Oper}:∀(r:List Oper)(s sN:RS),(cK E ops r s).val=Q1 sN->YC s->sN.tmps.length=s.tmps.length/\∀d,d∉Sa r->sN.tmps.getD d .any=s.tmps.getD d .any
 |[],s,sN,h,_=>by simp[cK]at h;rw[h];exact⟨rfl,λ_ _=>rfl⟩
 | o::r,s,sN,h,hk=>by
  simp only[cK,Tr.val_bind,gq]at h;obtain⟨J,G,H⟩:=h;obtain⟨M,B,_,z⟩:=ET G hk;obtain⟨D,F⟩:=sZ r J sN H z;refine⟨by rw[D,B.tlen],λd u=>?_⟩;rw[F d (λI=>u (by simp only[Sa,List.filterMap_cons];split<;>simp_all[Sa])),B.slots (λe=>u (by simp[Sa,e]))]
theorem iG(c:Bool):∀(h:List Nat)(pre t f:List AV),(dt c h pre t f).length=Io pre
 |[],_,_,_=>rfl
 |d::r,pre,t,f=>by rw[dt,iG c r];simp
theorem pi(c:Bool):∀(h:List Nat)(pre t f:List AV)(s:Nat),(dt c h pre t f).getD s .any=if s∈h/\s<Io pre then(rF c (t.getD s .any) (f.getD s .any)).getD .any else pre.getD s .any
 |[],pre,t,f,s=>by simp[dt]
 | d::r,pre,t,f,s=>by
  rw[dt,pi c r];grind
theorem ro{o:List Nat}{pre:List AV}:∀{t:Tr RS}{c:Option Bool}{l:List AV},AX o pre t=Q1 (c,l)->(c=Q2\/c=Q1 Q3)->∃sR,t.val=Q1 sR/\sR.touched=Q4/\
  (sR.tmps.length=Io pre->Io l=Io pre)/\∀s v,(s∉o->sR.tmps.getD s .any=pre.getD s .any)->Rv w U ρ (sR.tmps.getD s .any) v->Rv w U ρ (l.getD s .any) v
 |.err,c,l,h,_=>by simp[AX]at h
 | .ok st,c,l,h,_=>by
  simp only[AX]at h;simp_all
 | .chk Z t,c,l,h,W=>by
  simp only[AX]at h;split at h
  ·rename_i l' X;cases h;have:Z=Q3:=by simpa using W
   subst this;simp only[Q8,if_true];exact ro X (.inl rfl)
  ·rename_i c' l' X;cases h;have:Z=Q3/\c'=Q3:=by simpa using W
   obtain⟨rfl,rfl⟩:=this;simp only[Q8,if_true];exact ro X (.inr rfl)
  ·cases h
 | .br b t f,c,l,h,W=>by
  have h0:∀(ct cf:Option Bool)(D lf:List AV),AX o pre t=Q1 (ct,D)->AX o pre f=Q1 (cf,lf)->l=dt b o pre D lf->(b=Q3->ct=Q2\/ct=Q1 Q3)->(b=Q4->cf=Q2\/cf=Q1 Q3)->
    ∃sR,(br b t f).val=Q1 sR/\sR.touched=Q4/\(sR.tmps.length=Io pre->Io l=Io pre)/\∀s v,(s∉o->sR.tmps.getD s .any=pre.getD s .any)->Rv w U ρ (sR.tmps.getD s .any) v->Rv w U ρ (l.getD s .any) v:=by
   rintro ct cf D lf ht hf rfl O T
   have F:∀(sR:RS),(∀s v,(s∉o->sR.tmps.getD s .any=pre.getD s .any)->Rv w U ρ (sR.tmps.getD s .any) v->Rv w U ρ ((ite b D lf).getD s .any) v)->
     ∀s v,(s∉o->sR.tmps.getD s .any=pre.getD s .any)->Rv w U ρ (sR.tmps.getD s .any) v->Rv w U ρ ((dt b o pre D lf).getD s .any) v:=by
    intro sR hs s v u B;rw[pi];split
    ·rename_i H;have h1:=hs s v u B;cases Y:rF b (D.getD s .any) (lf.getD s .any)with
     |none=>exact .any _
     | some z=>
      refine DI Y ?_;cases b<;>simpa using h1
    ·rename_i H;by_cases G:s∈o
     ·have:¬s<Io pre:=λh=>H ⟨G,h⟩
      rw[aS,eC ow];exact .any _
     ·rw[<-u G];exact B
   cases b
   ·obtain⟨sR,I,J,_,M⟩:=ro hf (T rfl);exact⟨sR,by simpa[Q8]using I,J,λ_=>iG _ _ _ _ _,F sR (λs v hp B=>by simpa using M s v hp B)⟩
   ·obtain⟨sR,I,J,_,M⟩:=ro ht (O rfl);exact⟨sR,by simpa[Q8]using I,J,λ_=>iG _ _ _ _ _,F sR (λs v hp B=>by simpa using M s v hp B)⟩
  simp only[AX]at h;grind
theorem FC(hE:zw E){id:Nat}{ops:Array Oper}{o:Bool}{st F:St}(h:(tX E ops.toList o st).val=Q1 F)(hc:Cn C st a w U ρ)(hW:Wd E.gl C w U):
  (Code.region id ops o).wp E.P (λe O z=>e=.normal/\∃u G,Cn C F O z u G/\Wd E.gl C z u) a w:=by
 unfold tX at h;simp only at h;generalize B:({tmps:=st.tmps,heap:=st.heap}:RS)=M at h;have h0:M.log=[]:=by rw[<-B]
 have Z:M.known=[]:=by rw[<-B]
 have h8:Fj C M a w U ρ:=by rw[<-B];exact hc.toR
 have h9:YC M:=by intro d b hl;rw[Z]at hl;simp at hl
 generalize I:(ite o (checked ops.toList (cK E ops.toList ops.toList M)) (cK E ops.toList ops.toList M))=t at h;have J:∀sN,t.val=Q1 sN->(Code.region id ops o).wp E.P (λe O z=>e=.normal/\∃u G,Fj C sN O z u G/\Wd E.gl C z u) a w:=by
  intro sN D;have:=Tc (id:=id) hE h0 Z (by rw[I];exact D) h8 hW;simpa using this
 have h6:∀sN,t.val=Q1 sN->(cK E ops.toList ops.toList M).val=Q1 sN:=by
  intro sN D;rw[<-I]at D;cases o
  ·simpa using D
  ·simp only[if_true]at D;exact(jL D).1
 have W:(t.bind λs=>Tr.ok s.out).val=Q1 F->(Code.region id ops o).wp E.P (λe O z=>e=.normal/\∃u G,Cn C F O z u G/\Wd E.gl C z u) a w:=by
  intro h;simp only[Tr.val_bind,gq]at h;obtain⟨sN,D,h⟩:=h;simp at h;subst h;exact wp_mono (J sN D) (λe O z ⟨h1,u,G,T,h3⟩=>⟨h1,u,G,T.out,h3⟩)
 have h7:∀c l,AX (Sa ops.toList) st.tmps t=Q1 (c,l)->(c=Q2\/c=Q1 Q3)->F={st with tmps:=l}->
   (Code.region id ops o).wp E.P (λe O z=>e=.normal/\∃u G,Cn C F O z u G/\Wd E.gl C z u) a w:=by
  rintro c l Y X rfl;obtain⟨sR,D,ht,hl,_⟩:=ro (w:=w) (U:=U) (ρ:=ρ) Y X;obtain⟨x1,x0⟩:=sZ ops.toList M sR (h6 sR D) h9;have H:=pf ops.toList M sR (h6 sR D) ht;refine wp_mono (J sR D) (λe O z ⟨h1,u,G,T,h3⟩=>⟨h1,u,G,⟨⟨?_,λj c v x2 h4=>?_⟩,?_,?_,T.df,T.r0⟩,h3⟩)
  ·have:=T.tm.len;grind
  ·obtain⟨x3,h5,_,_,hr⟩:=ro (w:=z) (U:=u) (ρ:=G) Y X;rw[D]at h5;cases h5;have hj:j<sR.tmps.length:=by rw[T.tm.len];exact(dn.1 h4).1
   have e0:M.tmps=st.tmps:=by rw[<-B]
   have:=hr j v (λhd=>by rw[x0 j hd,e0]) (T.tm.rv j _ v (by simp_all) h4);simp_all
  ·have:sR.hp=({st with tmps:=l}:St).hp:=by
    funext i;simp only[RS.hp,St.hp,H,<-B]
   rw[<-this];exact T.hp
  ·have:sR.heap.length=st.heap.length:=by rw[H,<-B]
   intro i hi;exact T.new i (by rw[this];exact hi)
 split at h
 ·split at h
  ·simp_all
  ·simp_all
  ·exact W h
 ·exact W h
end
end Cad
