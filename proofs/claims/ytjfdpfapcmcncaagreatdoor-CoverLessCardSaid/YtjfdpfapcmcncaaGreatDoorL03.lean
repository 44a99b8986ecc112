/- What each operation says: all of them. Regions: one operation behind the other. -/
import Derived.Test.YtjfdpfapcmcncaaGreatDoorL02
import Derived.Laws.BytesString
import Derived.Orders
namespace Cad
open Go
open Tr renaming val→Q8
open Bool renaming false→Q4,true→Q3
open Option renaming none→Q2,some→Q1
open Tr (chk br)
open AV (nils agg tup ptr kb str sl)
section
variable {w:World} {U:Nat->Prop} {ρ:Nat->Option Value}
def sX(gl:Nat->AV)(w:World)(U:Nat->Prop):Prop:=∀g,Rv w U (λ_=>Q2) (gl g) (.pointer (Q1 ⟨g,0,Q2⟩))
structure oZ (P:Program) (gl:Nat->AV) (k:FuncId) (F:zV):Prop where
 fn:∃fn,P.funcs[k]?=Q1 fn/\(fn.name=="runtime.NumGoroutine")=Q4/\fn.body.isNone=Q4
 calls:∀(w:World)(U:Nat->Prop)(ρ:Nat->Option Value)(hp:Nat->AO)(n:Nat)(args:List AV)(vals:List Value)(f:fT)(fp:List Nat),(F args hp n).val=Q1 f->
  du w U ρ args vals->(∀b,U b->b<w.heap.size)->sX gl w U->GZ w U ρ hp fp->(∀id∈AV.idsL args,id∈fp)->(∀id∈fp,∀j∈(hp id).ids,j∈fp)->(∀j,j<f.nw.length->ρ (n+j)=Q2)->
  Calls P k vals.toArray w (λe w'=>∃v U' ρ',e=.returned v/\Ef n hp f w U ρ v w' U' ρ')/\∀id o,(id,o)∈f.wr->id∈fp
structure zt (E:bW):Prop extends EnvOk E where
 fs:∀k F,E.F k=Q1 F->oZ E.P E.gl k F
 mix:E.P.follows .mixedOrders=Q3
theorem pX{v:AV}{id:Nat}(h:id∈dK v):id∈v.ids:=by
 have hl:∀cs:List AV,id∈cs.flatMap cO->id∈AV.idsL cs:=by
  intro cs
  induction cs with
  |nil=>simp
  | cons c cs ih=>
   intro h;simp only[List.flatMap_cons,cQ]at h;simp only[AV.idsL,cQ];rcases h with h|h
   ·left;cases c<;>simp[cO]at h
    subst h;simp[AV.ids]
   ·exact .inr (ih h)
 unfold dK at h;split at h
 ·rename_i cs hcs;cases v<;>simp only[cellsOf,bB,reduceCtorEq]at hcs<;>(try subst hcs)
  case agg cs=>simp only[AV.ids];exact hl _ h
  case vec id'=>simp[cO]at h;subst h;simp[AV.ids]
  all_goals simp[cO]at h
 ·simp at h
theorem iE{cs:List AV}{c:AV}{id:Nat}(hc:c∈cs)(h:id∈c.ids):id∈AV.idsL cs:=by
 induction cs with
 |nil=>simp at hc
 | cons x cs ih=>
  simp only[AV.idsL,cQ];grind
theorem Zv{cs:List AV}{id:Nat}(h:id∈AV.idsL cs):∃c∈cs,id∈c.ids:=by
 induction cs with
 |nil=>simp[AV.idsL]at h
 | cons x cs ih=>
  simp only[AV.idsL,cQ]at h;grind
theorem fS{P:Program}{o:Oper}{a:Act}{K:Act->World->Prop}{Q:Exit->Act->World->Prop}{v:Value}{w':World}(h:(execOp a.eval o).run P w=.ok (.value v) w')(hk:K (a.put o.dst v) w'):o.wp P a w K Q:=by
 rw[Oper.wp,h];exact hk
theorem wD{P:Program}{o:Oper}{a:Act}{K:Act->World->Prop}{Q:Exit->Act->World->Prop}{w':World}(h:(execOp a.eval o).run P w=.ok .skip w')(hk:K (a.put o.dst undef) w'):o.wp P a w K Q:=by
 rw[Oper.wp,h];exact hk
theorem rR{ev:Operand->AV}{g:Operand->Value}:∀(xs:List Operand),(∀x∈xs,Rv w U ρ (ev x) (g x))->du w U ρ (xs.map ev) (xs.map g)
 |[],_=>⟨rfl,sw⟩
 | x::xs,h=>by
  have ih:=rR xs (λy hy=>h y (by simp[hy]));refine⟨sw,λj c v hc hv=>?_⟩;grind
theorem du.append{a b:List AV}{x y:List Value}(h:du w U ρ a x)(h':du w U ρ b y):du w U ρ (a++b) (x++y):=by
 refine⟨by simp[h.len,h'.len],λj c v hc hv=>?_⟩;by_cases hj:j<a.length
 ·rw[mG hj]at hc;rw[mG (by rw[<-h.len];exact hj)]at hv;exact h.rv j c v hc hv
 ·rw[nG ow]at hc;rw[nG (by rw[<-h.len];omega),<-h.len]at hv;exact h'.rv _ c v hc hv
theorem EI{E:bW}(hE:EnvOk E){n:Nat}{hp:Nat->AO}{t:TypeId}{len:Nat}{ps:List (Nat×AV)}{vps:List (Nat×Value)}{f:fT}{fp:List Nat}
  (h:(tB E hp n t len ps).val=Q1 f) (hi:ps.map (·.1)=vps.map (·.1)) (hr:du w U ρ (ps.map (·.2)) (vps.map (·.2)))
  (hub:∀b,U b->b<w.heap.size) (hn:∀j,j<f.nw.length->ρ (n+j)=Q2):
  ∃v w' U' ρ',(Instr.buildSlice t len vps.toArray).run E.P w=.ok v w'/\Ef n hp f w U ρ v w' U' ρ'/\∀id o,(id,o)∈f.wr->id∈fp:=by
 unfold tB at h;split at h
 ·rename_i elem hu;split at h
  ·rename_i e he;split at h
   ·rename_i hcond;simp only[aE,aO,List.isEmpty_iff]at hcond;obtain⟨⟨⟨⟨hlen,hord⟩,hne⟩,hmax⟩,hemp⟩:=hcond;split at h
    ·rename_i l hl;simp at h;subst h;have hn0:ρ n=Q2:=hn 0 sw;obtain⟨i,z,hinfo,hisz,hpos,_,hz,hzc⟩:=hE.sh elem e he;have hsz:fR E.P elem=Q1 e.size:=by simp[fR,hinfo,hisz]
     have hids:(ps.map (·.2)).flatMap dK=[]:=by
      rw[<-hemp,List.flatMap_map]
     obtain⟨h1,h2,h3⟩:=wR (w:=w) (U:=U) (ρ:=ρ) (U':=U) (λ_ h=>h) _ _ l hl hr
      (λid hid=>by rw[hids]at hid;cases hid)
     have hvps:vps=((vps.map (·.2)).zipIdx 0).map λp=>(p.2,p.1):=by
      have h1:=pQ ps 0 hord;have hidx:ps.map (·.1)=List.range' 0 ps.length:=by
       have:=congrArg (List.map (·.1)) h1;rw[pq]at this;rw[this];have e2:((λx:Nat×AV=>x.1)∘λp:AV×Nat=>(p.2,p.1))=Prod.snd:=rfl;rw[e2,List.zipIdx_map_snd];simp
      have hl2:ps.length=vps.length:=by have:=congrArg List.length hi;simpa using this
      rw[hi,hl2]at hidx;apply List.ext_getElem
      ·simp
      ·intro k hk hk';have:(vps.map (·.1))[k]?=(List.range' 0 vps.length)[k]?:=by rw[hidx]
       grind
     have hlen2:vps.length=len:=by rw[<-hlen];have:=congrArg List.length hi;simpa using this.symm
     obtain⟨r,e1,e2,e3,e4⟩:=xq e.size (vps.map (·.2)) 0 (((Array.range (len*e.size)).map (z.cells[· %z.cells.size]!)).toList)
      (λv hv=>(h2 v hv).1) (by simp[hlen2])
     rw[<-hvps]at e1;have hne0:len*e.size≠0:=Nat.mul_ne_zero ow ow;have hbig:¬(2^24<len*e.size):=by omega
     have hll:l.length=len:=by rw[h1];simpa using hlen2
     have hs:w.heap.size<=(w.alloc (.cells r.toArray elem)).heap.size:=by rw[aX];omega
     refine⟨.slice (Q1 ⟨w.heap.size,0,Q2⟩) len len,w.alloc (.cells r.toArray elem),λb=>U b\/b=w.heap.size,_,?_,Ef.newVec sw hn0 rfl (mg.alloc w _ _) (λb hb _=>bj w _ b hb) ?_ ?_ ?_ ?_,sw⟩
     ·simp only[Og]at e1;simp only[Instr.buildSlice,cF,bz hu,cM hsz,pm];simp only[gt_iff_lt,hbig,if_false,hne0,pk,pm,cF,zeroValue,typeInfo,run_program,hinfo,hz,e1,newRow,run_newObj];rfl
     ·intro b hb;rw[aX];grind
     ·grind
     ·refine⟨Q1 ⟨w.heap.size,0,Q2⟩,len,by simp[mz,hll],by unfold aF;grind,.inr ⟨w.heap.size,elem,r.toArray,rfl,hne,.inr rfl,cD w _,by simp[e2],ow,?_⟩⟩;intro i' hi' j c hc;have hi'':i'<(vps.map (·.2)).length:=by rw[<-h1];exact hi'
      obtain⟨v,hv1,hv2⟩:=h3 i' hi' hi'' j c hc;have hj:j<e.size:=by have:=(dh.1 hc).1;rwa [zW]at this
      have:=e4 i' hi'' j hj;rw[jJ]at this;refine⟨v,by grind,hv2.mono hs (λb hb _=>bj w _ b hb) (λb hb h=>h.elim (λx=>x) (λe=>by omega)) (eW hn0)⟩
     ·intro b hb;simp[fa]at hb;exact .inl ow
    ·simp at h
   ·simp at h
  ·simp at h
 ·simp at h
theorem yJ:∀(l:List Int)(s:ByteArray),l.foldl (λr n=>r.push (UInt8.ofNat n.toNat)) s=⟨s.data++(je l).toArray⟩:=by
 intro l
 induction l with
 |nil=>intro s;simp[je]
 |cons n l ih=>intro s;rw[List.foldl_cons,ih];simp[je,ByteArray.push]
theorem MI{P:Program}{src dst el:TypeId}{x:AV}{v:Value}{f:fT}(h:(Hs P el x).val=Q1 f)(hs:P.underlying src=Q1 (.slice el))
  (hd:P.underlying dst=Q1 .string) (hx:Rv w U ρ x v):
  ∃r x,f={val:=r}/\(convert src dst v).run P w=.ok x w/\Rv w U ρ r x:=by
 unfold Hs at h;split at h
 ·rename_i l;split at h
  ·rename_i hu;simp at h;subst h;cases hx with
   | sl0 _ a c=>
    refine⟨_,.string ⟨(je []).toArray⟩,rfl,?_,.str _ (by simp[je])⟩;rw[run_convert_bytes_string w src dst el a _ _ hs hu hd];cases a with
    |none=>simp[Conv.bytesToString,je];rfl
    | some a=>
     have:=run_bytesToString (P:=P) w a 0 c [] (by simpa using run_loadCells_list (P:=P) w a [] (λj v hv=>by simp at hv));rw[yJ]at this;simpa[je]using this
   | sl _ _ b o c vals hc hm hb hU hcell hrr=>
    have hcl:∀j(hj:j<l.length),w.cell? ⟨b,o+j,Q2⟩=Q1 (.int .u8 l[j]):=by
     intro j hj;have h1:=hcell j 0 hj (by simp[Sh.size]);have h2:=hrr j hj 0 (.int .u8 l[j]) rfl;generalize vals j 0=vv at h1 h2;cases h2 with
     |int _ _ hn=>
     simpa[Sh.size]using h1
    have:=run_bytesToString (P:=P) w ⟨b,o,Q2⟩ l.length c l (by
     have:=run_loadCells_list (P:=P) w ⟨b,o,Q2⟩ (l.map (Value.int .u8)) (λj v hv=>by
      rw[Addr.add_none];grind)
     simpa using this)
    rw[yJ]at this;refine⟨_,.string ⟨(je l).toArray⟩,rfl,?_,.str _ (by simpa[je]using hm)⟩;rw[run_convert_bytes_string w src dst el _ _ _ hs hu hd];simpa[je]using this
  ·simp at h
 ·simp at h
theorem F1{E:bW}(hE:zt E){ev:Operand->AV}{hp:Nat->AO}{n:Nat}{o:Oper}{f:fT}{a:Act}{fp:List Nat}(h:(pI E ev hp n o).val=Q1 f)
  (hev:∀x∈o.op.operands.toList,Rv w U ρ (ev x) (a.eval x)) (hub:∀b,U b->b<w.heap.size) (hgl:sX E.gl w U) (hfp:GZ w U ρ hp fp)
  (hin:iI o.op=Q3->∀x∈o.op.operands.toList,∀id∈(ev x).ids,id∈fp) (hcl:tq o.op=Q3->∀id∈fp,∀j∈(hp id).ids,j∈fp) (hn:∀j,j<f.nw.length->ρ (n+j)=Q2):
  (∀(K:Act->World->Prop)(Q:Exit->Act->World->Prop),(∀v w' U' ρ',Ef n hp f w U ρ v w' U' ρ'->K (a.put o.dst v) w')->o.wp E.P a w K Q)/\∀id o',(id,o')∈f.wr->id∈fp:=by
 have pureCase:∀(r:AV)(x:Value),f={val:=r}->(execOp a.eval o).run E.P w=.ok (.value x) w->Rv w U ρ r x->
   (∀(K:Act->World->Prop)(Q:Exit->Act->World->Prop),(∀v w' U' ρ',Ef n hp f w U ρ v w' U' ρ'->K (a.put o.dst v) w')->o.wp E.P a w K Q)/\∀id o',(id,o')∈f.wr->id∈fp:=by
  rintro r x rfl hrun hr;exact⟨λK Q hK=>fS hrun (hK _ _ _ _ (Ef.pure hub hr)),sw⟩
 unfold pI at h;split at h
 case h_1 x ho=>
  simp at h;subst h;exact pureCase _ (a.eval x) rfl (by simp[execOp,ho]) (hev x (by simp[ho,Op.operands]))
 case h_2 x ho=>
  simp at h;subst h;exact pureCase _ (a.eval x) rfl (by simp[execOp,ho]) (hev x (by simp[ho,Op.operands]))
 case h_3 c x y ho=>
  have hc:=hev c (by simp[ho,Op.operands]);have hx:=hev x (by simp[ho,Op.operands]);have hy:=hev y (by simp[ho,Op.operands]);generalize hvc:a.eval c=vc at hc;split at h
  ·rename_i hcc;rw[hcc]at hc;cases hc;simp at h;subst h;exact pureCase _ (a.eval x) rfl (by simp[execOp,ho,hvc,asBool]) hx
  ·rename_i hcc;rw[hcc]at hc;cases hc;simp at h;subst h;exact pureCase _ (a.eval y) rfl (by simp[execOp,ho,hvc,asBool]) hy
  ·rename_i b hcc;rw[hcc]at hc;cases hc;simp at h;obtain⟨z,hz,rfl⟩:=h;refine pureCase _ (if b then a.eval x else a.eval y) rfl (by simp[execOp,ho,hvc,asBool]) (CY hz ?_);cases b<;>simp[hx,hy]
  ·simp at h
 case h_4 t x ho=>
  have hx:=hev x (by simp[ho,Op.operands]);split at h
  ·rename_i cs hcs;simp at h;subst h;obtain⟨h1,h2⟩:=gT hcs hx;refine⟨λK Q hK=>fS (v:=.pointer (Q1 ⟨w.heap.size,0,Q2⟩)) (w':=w.alloc (.cells (a.eval x).cells t)) ?_ (hK _ _ _ _ (Ef.box hub (by simpa using hn 0 sw) h1 h2)),sw⟩;simp[execOp,ho,Instr.box,newVar,newRow]
  ·simp at h
 case h_5 t ho=>
  split at h
  ·rename_i cs hcs;simp at h;subst h;unfold W9 at hcs;split at hcs
   ·rename_i i hinfo;have hz:∃zv,i.zero=Q1 zv/\du w U ρ cs zv.cells.toList/\∀v∈zv.cells.toList,v.oneCell'=Q3:=by
     cases hz1:i.zero with
     |none=>rw[hz1]at hcs;cases hcs
     | some zv=>
      by_cases hm:zv=.map Q2
      ·subst hm;rw[hz1]at hcs;cases hcs;refine⟨_,rfl,⟨rfl,λi r v hr hv=>?_⟩,λv hv=>?_⟩
       ·cases i with
        |zero=>cases hr;exact .any _
        |succ i=>simp at hr
       have:v=Value.map Q2:=by simpa[Value.cells]using hv
       subst this;rfl
      ·have hcs':cellsOf (BB zv)=Q1 cs:=by
        rw[hz1]at hcs;split at hcs
        ·simp_all
        ·rename_i e;cases e;exact hcs
        ·rename_i e;cases e
       obtain⟨h1,h2⟩:=gT hcs' (qH (w:=w) (U:=U) (ρ:=ρ) zv);exact⟨zv,rfl,h1,h2⟩
    obtain⟨zv,hz1,h1,h2⟩:=hz;refine⟨λK Q hK=>fS (v:=.pointer (Q1 ⟨w.heap.size,0,Q2⟩)) (w':=w.alloc (.cells zv.cells t)) ?_ (hK _ _ _ _ (Ef.box hub (by simpa using hn 0 sw) h1 h2)),sw⟩;simp[execOp,ho,Instr.alloc,zeroValue,typeInfo,hinfo,hz1,newVar,newRow]
   ·cases hcs
  ·simp at h
 case h_6 t x ho=>
  have hx:=hev x (by simp[ho,Op.operands]);obtain⟨r,v,rfl,hrun,hr⟩:=F0 h hx (λid hid=>hfp.ob id (hin (by simp[ho,iI]) x (by simp[ho,Op.operands]) id hid));exact pureCase r v rfl (by simp[execOp,ho,hrun]) hr
 case h_7 t x y ho=>
  have hx:=hev x (by simp[ho,Op.operands]);have hy:=hev y (by simp[ho,Op.operands])
  obtain⟨w',U',hrun,hef,hwr⟩:=MM (n:=n) h hx hy hub hfp (λid hid=>hin (by simp[ho,iI]) x (by simp[ho,Op.operands]) id hid)
   (λid hid=>hin (by simp[ho,iI]) y (by simp[ho,Op.operands]) id (pX hid))
  exact⟨λK Q hK=>wD (by simp[execOp,ho,hrun]) (hK _ _ _ _ hef),hwr⟩
 case h_8 t x fl ho=>
  have hx:=hev x (by simp[ho,Op.operands]);obtain⟨r,v,rfl,hrun,hr⟩:=MK h hx;exact pureCase r v rfl (by simp[execOp,ho,hrun]) hr
 case h_9 t x fl ho=>
  have hx:=hev x (by simp[ho,Op.operands]);split at h
  ·rename_i fd cs hfd hcs;simp at h;obtain⟨r,hr,rfl⟩:=h;rw[hcs]at hx;generalize hvx:a.eval x=vx at hx;cases hx with
   |agg _ vs hl h1 hrr=>
   obtain⟨v,hrun,hrv⟩:=C8 hr hl h1 hrr;unfold AK at hfd;split at hfd
   ·rename_i fs hu;exact pureCase r v rfl (by simp[execOp,ho,hvx,Instr.field,bz hu,hfd,asAgg,hrun]) hrv
   ·cases hfd
  ·simp at h
 case h_10 t x i ho=>
  have hx:=hev x (by simp[ho,Op.operands]);have hi:=hev i (by simp[ho,Op.operands]);obtain⟨r,v,rfl,hrun,hr⟩:=Cr h hx hi (λid hid=>hfp.ob id (hin (by simp[ho,iI]) x (by simp[ho,Op.operands]) id hid));exact pureCase r v rfl (by simp[execOp,ho,hrun]) hr
 case h_11 t x i ho=>
  have hx:=hev x (by simp[ho,Op.operands]);have hi:=hev i (by simp[ho,Op.operands]);obtain⟨r,v,rfl,hrun,hr⟩:=ML h hx hi;exact pureCase r v rfl (by simp[execOp,ho,hrun]) hr
 case h_12 t parts ho=>
  simp at h;obtain⟨r,hr,rfl⟩:=h;have hops:∀p∈parts.toList,Rv w U ρ (ev p.2) (a.eval p.2):=λp hp=>hev p.2 (by simp only[ho,Op.operands];grind)
  obtain⟨v,hrun,hrv⟩:=QB (w:=w) (U:=U) (ρ:=ρ) (vparts:=parts.toList.map λp=>(p.1,a.eval p.2)) hr sw (by
   have:=rR (w:=w) (U:=U) (ρ:=ρ) (ev:=ev) (g:=a.eval) (parts.toList.map (·.2)) (λx hx=>by
    grind)
   simpa[pq,uk]using this)
  refine pureCase r v rfl ?_ hrv;have e1:(parts.toList.map λp=>(p.1,a.eval p.2)).toArray=parts.map λp=>(p.1,a.eval p.2):=by
   apply ml;simp
  rw[e1]at hrun;simp[execOp,ho,hrun]
 case h_13 t len parts ho=>
  have hops:∀p∈parts.toList,Rv w U ρ (ev p.2) (a.eval p.2):=λp hp=>hev p.2 (by simp only[ho,Op.operands];grind)
  have hrl:du w U ρ ((parts.toList.map λp=>(p.1,ev p.2)).map (·.2)) ((parts.toList.map λp=>(p.1,a.eval p.2)).map (·.2)):=by
   have:=rR (w:=w) (U:=U) (ρ:=ρ) (ev:=ev) (g:=a.eval) (parts.toList.map (·.2)) (λx hx=>by
    grind)
   simpa[pq,uk]using this
  have e1:(parts.toList.map λp=>(p.1,a.eval p.2)).toArray=parts.map λp=>(p.1,a.eval p.2):=by
   apply ml;simp
  split at h
  ·obtain⟨v,w',U',ρ',hrun,hef,hwr⟩:=EI hE.toEnvOk (fp:=fp) (n:=n) (w:=w) (U:=U) (ρ:=ρ) (vps:=parts.toList.map λp=>(p.1,a.eval p.2)) h sw hrl hub hn;refine⟨λK Q hK=>fS ?_ (hK _ _ _ _ hef),hwr⟩;rw[e1]at hrun;simp[execOp,ho,hrun]
  ·obtain⟨v,w',U',hrun,hef,hwr⟩:=Al hE.toEnvOk (n:=n) (w:=w) (U:=U) (ρ:=ρ) (vps:=parts.toList.map λp=>(p.1,a.eval p.2)) h sw hrl hub hfp (λid hid=>by
    simp only[List.mem_flatMap,bn]at hid;obtain⟨q,⟨p,hp,rfl⟩,hid⟩:=hid;exact hin (by simp[ho,iI]) p.2 (by simp only[ho,Op.operands];grind) id (pX hid))
   refine⟨λK Q hK=>fS ?_ (hK _ _ _ _ hef),hwr⟩;rw[e1]at hrun;simp[execOp,ho,hrun]
 case h_14 op t x y yt ho=>
  have hx:=hev x (by simp[ho,Op.operands]);have hy:=hev y (by simp[ho,Op.operands]);obtain⟨r,v,rfl,hrun,hr⟩:=Yy x y h hx hy;refine pureCase r v rfl ?_ hr;simp only[execOp,ho];rw[cF,hrun];rfl
 case h_15 t x ho=>
  have hx:=hev x (by simp[ho,Op.operands]);generalize hvx:a.eval x=vx at hx;split at h
  ·rename_i b hb;rw[hb]at hx;cases hx;simp at h;subst h;exact pureCase _ (.bool (!b)) rfl (by simp[execOp,ho,hvx,Op.unary]) (.bool _)
  ·rename_i b hb;rw[hb]at hx;cases hx;simp at h;subst h;exact pureCase _ (.bool (!b)) rfl (by simp[execOp,ho,hvx,Op.unary]) (.kb _)
  ·simp at h
 case h_16 t x ho=>
  have hx:=hev x (by simp[ho,Op.operands]);generalize hvx:a.eval x=vx at hx;split at h
  ·rename_i k b hb;rw[hb]at hx;cases hx;simp at h;subst h;exact pureCase _ (.int k (k.wrap (-b))) rfl (by simp[execOp,ho,hvx,Op.unary,Op.intArith]) (.int _ _ (oK _ _))
  ·simp at h
 case h_17 src dst x ho=>
  have hx:=hev x (by simp[ho,Op.operands]);generalize hvx:a.eval x=vx at hx;split at h
  ·rename_i d k k' b hs hu hb;rw[hb]at hx;cases hx;simp at h;subst h;exact pureCase _ (.int k (k.wrap b)) rfl (by simp[execOp,ho,hvx,convert,bz hs,bz hu,Conv.intToInt]) (.int _ _ (oK _ _))
  ·rename_i d s hs hu hb;rw[hb]at hx;have hh:=hx;cases hx;simp at h;subst h;exact pureCase _ _ rfl (by simp[execOp,ho,hvx,convert,bz hs,bz hu]) hh
  ·rename_i el e l hs hu hb;rw[hb]at hx;obtain⟨r,v,rfl,hrun,hr⟩:=MI (src:=src) (dst:=dst) h hs hu hx;exact pureCase r v rfl (by simp[execOp,ho,hvx,hrun]) hr
  ·simp at h
 case h_18 t x lo hi mx ho=>
  have hx:=hev x (by simp[ho,Op.operands])
  obtain⟨v,U',hrun,hef,hwr⟩:=Ki (n:=n) (fp:=fp) (w:=w) (U:=U) (ρ:=ρ) (vlo:=lo.map a.eval) (vhi:=hi.map a.eval) (vmx:=mx.map a.eval) h hx
   (λb v hb hv=>by cases lo<;>simp at hb hv;subst hb;subst hv;exact hev _ (by simp[ho,Op.operands]))
   (λb v hb hv=>by cases hi<;>simp at hb hv;subst hb;subst hv;exact hev _ (by simp[ho,Op.operands]))
   (λb v hb hv=>by cases mx<;>simp at hb hv;subst hb;subst hv;exact hev _ (by simp[ho,Op.operands])) (by cases lo<;>rfl) (by cases hi<;>rfl) (by cases mx<;>rfl) hub hfp (λid hid=>hin (by simp[ho,iI]) x (by simp[ho,Op.operands]) id hid)
  exact⟨λK Q hK=>fS (by simp[execOp,ho,hrun]) (hK _ _ _ _ hef),hwr⟩
 case h_19 x i ho=>
  have hx:=hev x (by simp[ho,Op.operands]);generalize hvx:a.eval x=vx at hx;split at h
  ·rename_i vs hvs;rw[hvs]at hx;simp at h;obtain⟨r,hr,rfl⟩:=h;cases hx with
   |tup _ xs hl hrr=>
   have hlt:i<xs.length:=by rw[<-hl];exact(dh.1 hr).1
   exact pureCase r xs[i] rfl (by simp[execOp,ho,hvx,Instr.extract,zQ hlt]) (hrr i r _ hr (zQ hlt))
  ·simp at h
 case h_20 fn first caps ho=>
  simp at h;subst h;refine pureCase _ (.func fn (first.toList.map a.eval).toArray (caps.toList.map a.eval).toArray) rfl (by simp[execOp,ho,Instr.makeFunc];grind) ?_;have h1:=rR (w:=w) (U:=U) (ρ:=ρ) (ev:=ev) (g:=a.eval) first.toList (λx hx=>hev x (by simp[ho,Op.operands];exact .inl (by simpa using hx)))
  have h2:=rR (w:=w) (U:=U) (ρ:=ρ) (ev:=ev) (g:=a.eval) caps.toList (λx hx=>hev x (by simp[ho,Op.operands];exact .inr (by simpa using hx)));exact .clo fn _ _ _ _ h1.len h2.len h1.rv h2.rv
 case h_21 x ho=>
  have hx:=hev x (by simp[ho,Op.operands]);have hx':=hx;generalize hvx:a.eval x=vx at hx;split at h
  ·rename_i i j hav;rw[hav]at hx;simp at h;subst h;have hh:=hx;cases hx;exact pureCase _ _ rfl (by simp[execOp,ho,hvx]) hh
  ·rename_i cs j hav;rw[hav]at hx;simp at h;subst h;have hh:=hx;cases hx;exact pureCase _ _ rfl (by simp[execOp,ho,hvx]) hh
  ·rename_i i j k l hav;rw[hav]at hx;simp at h;subst h;have hh:=hx;cases hx;exact pureCase _ _ rfl (by simp[execOp,ho,hvx]) hh
  ·rename_i g as bs hav;rw[hav]at hx;simp at h;subst h;have hh:=hx;cases hx;exact pureCase _ _ rfl (by simp[execOp,ho,hvx]) hh
  ·simp at h
 case h_22 c ho=>
  have hm:iI o.op=Q3:=by simp[ho,iI]
  have hargs:∀x∈c.args.toList,x∈o.op.operands.toList:=by
   intro x hx;simp only[ho,Op.operands,Call.operands,Array.toList_append,cQ];exact .inr hx
  have hrv:=rR (w:=w) (U:=U) (ρ:=ρ) (ev:=ev) (g:=a.eval) c.args.toList (λx hx=>hev x (hargs x hx));unfold TU at h;split at h
  ·rename_i fo hcal;have hfo:fo∈o.op.operands.toList:=by simp[ho,Op.operands,Call.operands,hcal]
   have hf:=hev fo hfo;generalize hvf:a.eval fo=vf at hf;split at h
   ·rename_i k first caps hcl0
    split at h
    ·rename_i F hF;have hFok:=hE.fs k F hF;rw[hcl0]at hf;cases hf with
     |clo _ _ _ vfi vca h1 h2 h3 h4=>
     have hall:du w U ρ (first++c.args.toList.map ev++caps) (vfi++c.args.toList.map a.eval++vca):=(du.append ⟨h1,h3⟩ hrv).append ⟨h2,h4⟩;obtain⟨hcalls,hwr⟩:=hFok.calls w U ρ hp n _ _ f fp h hall hub hgl hfp (λid hid=>by
      obtain⟨cc,hcc,hid⟩:=Zv hid;simp only[cQ,bn]at hcc;rcases hcc with(hcc|⟨x,hx,rfl⟩)|hcc
      ·exact hin hm fo hfo id (by rw[hcl0];simp only[AV.ids,cQ];exact .inl (iE hcc hid))
      ·exact hin hm x (hargs x hx) id hid
      ·exact hin hm fo hfo id (by rw[hcl0];simp only[AV.ids,cQ];exact .inr (iE hcc hid))) (hcl (by simp[ho,tq])) hn
     refine⟨λK Q hK=>?_,hwr⟩;obtain⟨fn,hfn,hname,hbody⟩:=hFok.fn;have hrun:(execOp a.eval o).run E.P w=.ok (.enter k (vfi++c.args.toList.map a.eval++vca).toArray) w:=by
      simp only[execOp,ho,resolve,hcal,hvf,Deferred.ofValue,cF,pk,pm,invoke,callFunc,run_program,hfn,hname,hbody,zF,if_false];congr 2;apply ml;simp
     rw[Oper.wp,hrun];refine hcalls.mono λe w' ⟨v,U',ρ',he,hef⟩=>?_
     grind
    ·simp at h
   ·simp at h
  ·rename_i hcal;split at h
   ·rename_i x t hax hat;have hc:c.args.toList.length=1:=by have:=congrArg List.length hax;simpa using this
    obtain⟨xo,hxo⟩:∃xo,c.args.toList=[xo]:=List.length_eq_one_iff.1 hc;rw[hxo]at hax;simp at hax;subst hax;obtain⟨r,v,rfl,hrun,hr⟩:=TW (P:=E.P) (w:=w) (U:=U) (ρ:=ρ) (ty:=o.type) h (hev xo (hargs xo (by simp[hxo]))) (λid hid=>hfp.ob id (hin hm xo (hargs xo (by simp[hxo])) id hid));refine pureCase r v rfl ?_ hr;have e1:c.args=#[xo]:=by apply ml;simpa using hxo
    have e2:c.argTypes=#[t]:=by apply ml;simpa using hat
    simp[execOp,ho,resolve,hcal,invoke,builtin,e1,e2,hrun]
   ·simp at h
  ·rename_i hcal;split at h
   ·rename_i b x t t' hax hat;split at h
    ·rename_i elem el' hu hu';have hc:c.args.toList.length=2:=by have:=congrArg List.length hax;simpa using this
     obtain⟨bo,xo,hbx⟩:∃bo xo,c.args.toList=[bo,xo]:=by
      match hl:c.args.toList,hc with
      |[p,q],_=>exact⟨p,q,rfl⟩
     rw[hbx]at hax;simp at hax;obtain⟨rfl,rfl⟩:=hax;have hnn:ρ n=Q2:=by
      have h1:f.nw.length=1:=by
       clear hn;unfold uI at h;repeat' split at h
       all_goals first
        |(simp at h;done)
        |(simp at h;obtain⟨_,rfl⟩:=h;rfl)
      simpa using hn 0 ow
     obtain⟨v,w',U',ρ',hrun,hef,hwr⟩:=Kg hE.toEnvOk (w:=w) (U:=U) (ρ:=ρ) (t:=t) (t':=t') (ty:=o.type) h hu hu' (hev bo (hargs bo (by simp[hbx]))) (hev xo (hargs xo (by simp[hbx]))) hub hfp
      (λid hid=>hin hm bo (hargs bo (by simp[hbx])) id hid) (λid hid=>hin hm xo (hargs xo (by simp[hbx])) id hid) hnn
     refine⟨λK Q hK=>fS ?_ (hK _ _ _ _ hef),hwr⟩;have e1:c.args=#[bo,xo]:=by apply ml;simpa using hbx
     have e2:c.argTypes=#[t,t']:=by apply ml;simpa using hat
     simp[execOp,ho,resolve,hcal,invoke,builtin,e1,e2,hrun]
    ·simp at h
   ·simp at h
  ·simp at h
 case h_23 t ho=>
  split at h
  ·rename_i o0 ho0;simp at h;subst h;have hoo:o0=.fmap []\/∃u,o0=.vmap u []:=by
    unfold Ve at ho0;repeat' split at ho0
    all_goals simp_all
   refine⟨λK Q hK=>fS (v:=.map (Q1 w.heap.size)) (w':=w.alloc (.map #[] 0)) ?_ (hK _ _ _ _ (Ef.mkMap hoo hub (by simpa using hn 0 sw))),sw⟩;simp[execOp,ho,Instr.makeMap,newObj];rfl
  ·simp at h
 case h_24 t m k x ho=>
  obtain⟨w',hrun,hef,hwr⟩:=yH (n:=n) h (hev m (by simp[ho,Op.operands])) (hev k (by simp[ho,Op.operands])) (hev x (by simp[ho,Op.operands])) hub hfp (λid hid=>hin (by simp[ho,iI]) m (by simp[ho,Op.operands]) id hid);exact⟨λK Q hK=>wD (by simp[execOp,ho,hrun]) (hK _ _ _ _ hef),hwr⟩
 case h_25 t m k x ho=>
  obtain⟨w',hrun,hef,hwr⟩:=yH (n:=n) h (hev m (by simp[ho,Op.operands])) (hev k (by simp[ho,Op.operands])) (hev x (by simp[ho,Op.operands])) hub hfp (λid hid=>hin (by simp[ho,iI]) m (by simp[ho,Op.operands]) id hid);exact⟨λK Q hK=>wD (by simp[execOp,ho,hrun]) (hK _ _ _ _ hef),hwr⟩
 case h_26 t x i two ho=>
  obtain⟨r,v,rfl,hrun,hr⟩:=Kh h (hev x (by simp[ho,Op.operands])) (hev i (by simp[ho,Op.operands])) (λid hid=>hfp.ob id (hin (by simp[ho,iI]) x (by simp[ho,Op.operands]) id hid));exact pureCase r v rfl (by simp[execOp,ho,hrun]) hr
 case h_27 t m k ho=>
  obtain⟨v,w',hrun,hef,hwr⟩:=MJ (n:=n) h (hev m (by simp[ho,Op.operands])) (hev k (by simp[ho,Op.operands])) hub hfp (λid hid=>hin (by simp[ho,iI]) m (by simp[ho,Op.operands]) id hid);exact⟨λK Q hK=>fS (by simp[execOp,ho,hrun]) (hK _ _ _ _ hef),hwr⟩
 case h_28 t m s x ho=>
  obtain⟨w',hrun,hef,hwr⟩:=Am (P:=E.P) (t:=t) (n:=n) h (hev m (by simp[ho,Op.operands])) (hev s (by simp[ho,Op.operands])) (hev x (by simp[ho,Op.operands])) hub hfp (λid hid=>hin (by simp[ho,iI]) m (by simp[ho,Op.operands]) id hid);exact⟨λK Q hK=>wD (by simp[execOp,ho,hrun]) (hK _ _ _ _ hef),hwr⟩
 case h_29=>simp at h
end
structure fh where
 w0:World
 U0:Nat->Prop
 B0:Nat->Prop
 ρ0:Nat->Option Value
structure Wd (gl:Nat->AV) (C:fh) (w:World) (U:Nat->Prop):Prop where
 ext:mg C.w0 w
 same:∀b,b<C.w0.heap.size->¬C.B0 b->w.heap[b]?=C.w0.heap[b]?
 ub:∀b,U b->b<w.heap.size
 u1:∀b,b<C.w0.heap.size->U b->C.U0 b
 u2:∀b,b<C.w0.heap.size->C.U0 b->¬C.B0 b->U b
 gl:sX gl w U
structure jF (C:fh) (w:World) (U:Nat->Prop) (ρ:Nat->Option Value) (hp:Nat->AO):Prop where
 ob:∀id,bA w U ρ id (hp id)
 inj:∀id1 id2 b,aj ρ id1 (hp id1) b->aj ρ id2 (hp id2) b->id1=id2
 blk:∀id b,aj ρ id (hp id) b->C.B0 b\/C.w0.heap.size<=b
section
variable {gl:Nat->AV} {C:fh} {w:World} {U:Nat->Prop} {ρ:Nat->Option Value}
theorem BJ{n:Nat}{hpl hp hp':Nat->AO}{f:fT}{v:Value}{w':World}{U':Nat->Prop}{ρ':Nat->Option Value}(hW:Wd gl C w U)(hH:jF C w U ρ hp)(hef:Ef n hpl f w U ρ v w' U' ρ')
  (hloc:∀id o,(id,o)∈f.wr->hpl id=hp id)
  (h1:∀id,(∃o,(id,o)∈f.wr)->∃o,(id,o)∈f.wr/\hp' id=o) (h2:∀(j:Nat) o,f.nw[j]?=Q1 o->hp' (n+j)=o)
  (h3:∀id,(¬∃o,(id,o)∈f.wr)->(id<n\/n+f.nw.length<=id)->hp' id=hp id):
  Wd gl C w' U'/\jF C w' U' ρ' hp'/\∀{c:AV}{x:Value},Rv w U ρ c x->Rv w' U' ρ' c x:=by
 have hownU:∀id o b,(id,o)∈f.wr->aj ρ id (hpl id) b->U b/\b<w.heap.size:=by
  intro id o b hid ho;rw[hloc id o hid]at ho;exact(hH.ob id).inU ho
 have hk:∀b,b<w.heap.size->¬U b->w'.heap[b]?=w.heap[b]?:=λb hb hU=>hef.same b hb (λid o hid ho=>hU (hownU id o b hid ho).1)
 have mono:∀{c:AV}{x:Value},Rv w U ρ c x->Rv w' U' ρ' c x:=λh=>h.mono hef.ext.sz hk hef.u1 hef.rhon
 have kind:∀id,(∃o,(id,o)∈f.wr/\hp' id=o)\/(n<=id/\∃o,f.nw[id-n]?=Q1 o/\hp' id=o)\/((¬∃o,(id,o)∈f.wr)/\(id<n\/n+f.nw.length<=id)/\hp' id=hp id):=by
  intro id;by_cases hw:∃o,(id,o)∈f.wr
  ·exact .inl (h1 id hw)
  ·grind
 have other:∀id,(¬∃o,(id,o)∈f.wr)->∀b,aj ρ id (hp id) b->b<w.heap.size/\∀id' o',(id',o')∈f.wr->¬aj ρ id' (hpl id') b:=by
  intro id hw b ho;refine⟨((hH.ob id).inU ho).2,λid' o' hid' ho'=>?_⟩;rw[hloc id' o' hid']at ho';have:=hH.inj id id' b ho ho';subst this;exact hw ⟨o',hid'⟩
 have ownsBack:∀id,(id<n\/n+f.nw.length<=id)->∀o b,aj ρ' id o b->aj ρ id o b:=by
  rintro id hid o b ⟨h,v,hv,hb⟩;rw[hef.rho id hid]at hv;exact⟨h,v,hv,hb⟩
 have ownKnown:∀id b,((∃o,(id,o)∈f.wr/\hp' id=o)\/(n<=id/\∃o,f.nw[id-n]?=Q1 o/\hp' id=o))->aj ρ' id (hp' id) b->
   w.heap.size<=b\/∃id' o',(id',o')∈f.wr/\aj ρ id' (hp id') b:=by
  intro id b hid ho;have hin:((id,hp' id)∈f.wr\/(n<=id/\f.nw[id-n]?=Q1 (hp' id))):=by
   rcases hid with⟨o,h,rfl⟩|⟨h,o,h',rfl⟩
   ·exact .inl h
   ·exact .inr ⟨h,h'⟩
  rcases hef.own id _ b hin ho with h|⟨id',o',hid',ho'⟩
  ·exact .inl h
  ·grind
 refine⟨⟨hW.ext.trans hef.ext,?_,hef.ub,?_,?_,?_⟩,⟨?_,?_,?_⟩,mono⟩
 ·intro b hb hB;rw[hef.same b (ia hb hW.ext.sz) (λid o hid ho=>?_)]
  ·exact hW.same b hb hB
  ·rw[hloc id o hid]at ho;rcases hH.blk id b ho with h|h
   ·exact hB h
   ·omega
 ·intro b hb hU;exact hW.u1 b hb (hef.u1 b (ia hb hW.ext.sz) hU)
 ·intro b hb hU hB;refine hef.u2 b (ia hb hW.ext.sz) (hW.u2 b hb hU hB) (λid o hid ho=>?_);rw[hloc id o hid]at ho;rcases hH.blk id b ho with h|h
  ·exact hB h
  ·omega
 ·intro g;exact(hW.gl g).mono hef.ext.sz hk hef.u1 (λ_ _ h=>by cases h)
 ·intro id;rcases kind id with⟨o,h,e⟩|⟨h,o,h',e⟩|⟨hw,hid,e⟩
  ·rw[e];exact hef.wr id o h
  ·rw[e];have:=hef.nw (id-n) o h';simp_all
  ·rw[e];refine(hH.ob id).mono hef.ext.sz hk hef.u1 hef.rhon (λb ho=>?_);obtain⟨hb,hno⟩:=other id hw b ho;exact⟨hef.same b hb hno,hef.u2 b hb ((hH.ob id).inU ho).1 hno⟩
 ·intro id1 id2 b ho1 ho2;have k1:=kind id1;have k2:=kind id2
  have cross:∀id1 id2,((∃o,(id1,o)∈f.wr/\hp' id1=o)\/(n<=id1/\∃o,f.nw[id1-n]?=Q1 o/\hp' id1=o))->
    ((¬∃o,(id2,o)∈f.wr)/\(id2<n\/n+f.nw.length<=id2)/\hp' id2=hp id2)->aj ρ' id1 (hp' id1) b->aj ρ' id2 (hp' id2) b->False:=by
   intro id1 id2 k1 ⟨hw,hid,e⟩ ho1 ho2;rw[e]at ho2;have ho2':=ownsBack id2 hid _ b ho2;obtain⟨hb,hno⟩:=other id2 hw b ho2';rcases ownKnown id1 b k1 ho1 with h|⟨id',o',hid',ho'⟩
   ·omega
   ·grind
  rcases k1 with k1|k1|k1<;>rcases k2 with k2|k2|k2
  ·obtain⟨o1,h1',e1⟩:=k1;obtain⟨o2,h2',e2⟩:=k2;rw[e1]at ho1;rw[e2]at ho2;exact hef.inj id1 o1 id2 o2 b (.inl h1') (.inl h2') ho1 ho2
  ·obtain⟨o1,h1',e1⟩:=k1;obtain⟨hn2,o2,h2',e2⟩:=k2;rw[e1]at ho1;rw[e2]at ho2;exact hef.inj id1 o1 id2 o2 b (.inl h1') (.inr ⟨hn2,h2'⟩) ho1 ho2
  ·grind
  ·obtain⟨hn1,o1,h1',e1⟩:=k1;obtain⟨o2,h2',e2⟩:=k2;rw[e1]at ho1;rw[e2]at ho2;exact hef.inj id1 o1 id2 o2 b (.inr ⟨hn1,h1'⟩) (.inl h2') ho1 ho2
  ·obtain⟨hn1,o1,h1',e1⟩:=k1;obtain⟨hn2,o2,h2',e2⟩:=k2;rw[e1]at ho1;rw[e2]at ho2;exact hef.inj id1 o1 id2 o2 b (.inr ⟨hn1,h1'⟩) (.inr ⟨hn2,h2'⟩) ho1 ho2
  ·grind
  ·grind
  ·grind
  ·obtain⟨_,hid1,e1⟩:=k1;obtain⟨_,hid2,e2⟩:=k2;rw[e1]at ho1;rw[e2]at ho2;exact hH.inj id1 id2 b (ownsBack id1 hid1 _ b ho1) (ownsBack id2 hid2 _ b ho2)
 ·intro id b ho;rcases kind id with k|k|⟨_,hid,e⟩
  ·rcases ownKnown id b (.inl k) ho with h|⟨id',o',hid',ho'⟩
   ·exact .inr (cC hW.ext.sz h)
   ·exact hH.blk id' b ho'
  ·rcases ownKnown id b (.inr k) ho with h|⟨id',o',hid',ho'⟩
   ·exact .inr (cC hW.ext.sz h)
   ·exact hH.blk id' b ho'
  ·rw[e]at ho;exact hH.blk id b (ownsBack id hid _ b ho)
structure Et (C:fh) (st:RS) (a:Act) (w:World) (U:Nat->Prop) (ρ:Nat->Option Value):Prop where
 tm:du w U ρ st.tmps a.tmps.toList
 hp:jF C w U ρ st.hp
 new:∀id,st.heap.length<=id->ρ id=Q2
 kn:∀d b,st.known.lookup d=Q1 b->a.tmps[d]?=Q1 (.bool b)
 df:a.defers=[]
 r0:∀id v,C.ρ0 id=Q1 v->ρ id=Q1 v
theorem Hy{E:bW}{tmps:List AV}{known:List (Nat×Bool)}{a:Act}(htm:du w U ρ tmps a.tmps.toList)(hkn:∀d b,known.lookup d=Q1 b->a.tmps[d]?=Q1 (.bool b))(hgl:sX E.gl w U)(x:Operand):
  Rv w U ρ (wE E tmps known x) (a.eval x):=by
 cases x with
 | tmp t=>
  simp only[wE,Act.eval];cases hk:known.lookup t with
  | some b=>
   have:=hkn t b hk;simp only[o5,this,dp];exact .kb b
  | none=>
   by_cases ht:t<tmps.length
   ·have ht':t<a.tmps.toList.length:=by rw[<-htm.len];exact ht
    have h1:a.tmps.getD t undef=a.tmps.toList[t]:=by
     simp only[Array.length_toList]at ht';simp[Array.getD,ht']
    rw[h1];exact htm.rv t _ _ (by simp_all) (zQ ht')
   ·rw[ba,fy (Nat.le_of_not_lt ht)];exact .any _
 |const v=>exact qH v
 |global g=>exact(hgl g).mono (ae _) (λ_ _ _=>rfl) (λ_ _ h=>h) (λ_ _ h=>by cases h)
 |func f=>simp only[wE,Act.eval];exact .clo (.func f) [] [] [] [] rfl rfl sw sw
theorem bH:∀(wr:List (Nat×AO))(h:List AO),(nz h wr).length=h.length
 |[],_=>rfl
 |(i,o)::r,h=>by simp[nz,bH r]
theorem r7:∀(wr:List (Nat×AO))(h:List AO)(id:Nat),(¬∃o,(id,o)∈wr)->(nz h wr).getD id .dead=h.getD id .dead
 |[],_,_,_=>rfl
 | (i,o)::r,h,id,hn=>by
  rw[nz,r7 r _ id (λ⟨o',ho'⟩=>hn ⟨o',by simp[ho']⟩)];grind
theorem r8:∀(wr:List (Nat×AO))(h:List AO)(id:Nat),(∀p∈wr,p.1<h.length)->(∃o,(id,o)∈wr)->∃o,(id,o)∈wr/\(nz h wr).getD id .dead=o
 |[],_,_,_,⟨_,h⟩=>by simp at h
 | (i,o)::r,h,id,hl,hex=>by
  by_cases hr:∃o,(id,o)∈r
  ·obtain⟨o',h1,h2⟩:=r8 r (h.set i o) id (λp hp=>by grind) hr;exact⟨o',by simp[h1],h2⟩
  ·obtain⟨o',ho'⟩:=hex;simp only[cr,cB]at ho';rcases ho' with⟨rfl,rfl⟩|ho'
   ·refine⟨o',sw,?_⟩;rw[nz,r7 r _ _ hr];simp_all
   ·exact(hr ⟨o',ho'⟩).elim
theorem AT{tmps:List AV}{a:Act}{d:Option Tmp}{c:AV}{v:Value}(h:du w U ρ tmps a.tmps.toList)(hv:Rv w U ρ c v):du w U ρ (qa tmps d c) (a.put d v).tmps.toList:=by
 cases d with
 |none=>exact h
 | some d=>
  simp only[qa,Act.put];refine⟨by simp[h.len],λj c' v' hc hv'=>?_⟩;simp only[Array.toList_setIfInBounds]at hv';by_cases hj:d=j
  ·grind
  ·rw[List.getElem?_set_ne hj]at hc hv';exact h.rv j c' v' hc hv'
theorem F9{known:List (Nat×Bool)}{a:Act}{d:Option Tmp}{v:Value}(h:∀d b,known.lookup d=Q1 b->a.tmps[d]?=Q1 (.bool b)):
  ∀d' b,(tI known d).lookup d'=Q1 b->(a.put d v).tmps[d']?=Q1 (.bool b):=by
 intro d' b hl;cases d with
 |none=>exact h d' b hl
 | some d=>
  simp only[tI]at hl;have key:∀(k:List (Nat×Bool)),(k.filter λp=>p.1!=d).lookup d'=Q1 b->d'≠d/\k.lookup d'=Q1 b:=by
   intro k
   induction k with
   |nil=>simp
   | cons p k ih=>
    grind
  obtain⟨hne,hk⟩:=key known hl;simp only[Act.put];grind
theorem CF{hp:Nat->AO}{ev:Operand->AV}{o:Oper}(h:Kq hp ev o=Q3):
  (iI o.op=Q3->∀x∈o.op.operands.toList,∀id∈(ev x).ids,id∈uN hp ev o)/\(tq o.op=Q3->∀id∈uN hp ev o,∀j∈(hp id).ids,j∈uN hp ev o):=by
 unfold Kq at h;constructor
 ·intro hm x hx id hid;simp only[hm,bS,Bool.false_or,aE,ei,E7]at h;exact h.1 id (iE (List.mem_map_of_mem hx) hid)
 ·intro hm id hid j hj;have hm2:iI o.op=Q3:=by
   cases ho:o.op<;>rw[ho]at hm<;>simp_all[tq,iI]
  grind
theorem AM{E:bW}(hE:zt E){st st':RS}{o:Oper}{a:Act}(h:(EL E o st).val=Q1 st')(hc:Et C st a w U ρ)(hW:Wd E.gl C w U)
  (K:Act->World->Prop) (Q:Exit->Act->World->Prop) (hK:∀a' w' U' ρ',Et C st' a' w' U' ρ'->Wd E.gl C w' U'->K a' w'):o.wp E.P a w K Q:=by
 unfold EL at h;split at h
 ·rename_i hfp;simp only[Tr.val_bind,gm]at h;obtain⟨f,hf,h⟩:=h;split at h
  ·rename_i hwl;simp at h;subst h;obtain⟨hin,hcl⟩:=CF hfp;have hn:∀j,j<f.nw.length->ρ (st.heap.length+j)=Q2:=λj _=>hc.new _ ow
   obtain⟨hwp,hwr⟩:=F1 hE (w:=w) (U:=U) (ρ:=ρ) (a:=a) (fp:=uN st.hp (wE E st.tmps st.known) o) hf (λx _=>Hy hc.tm hc.kn hW.gl x) hW.ub hW.gl
    ⟨λid _=>hc.hp.ob id,λid1 _ id2 _ b=>hc.hp.inj id1 id2 b⟩ hin hcl hn
   refine hwp K Q (λv w' U' ρ' hef=>?_);simp only[ei,aE,aO]at hwl
   replace hwl:∀p∈f.wr,p.1<st.heap.length:=λp hp=>(hwl p hp).1
   have hset:=r8 f.wr st.heap
   obtain⟨hW',hH',mono⟩:=BJ (hp':=λid=>(nz st.heap f.wr++f.nw).getD id .dead) hW hc.hp hef (λ_ _ _=>rfl)
    (λid hex=>by
     obtain⟨o',h1,h2⟩:=r8 f.wr st.heap id hwl hex;refine⟨o',h1,?_⟩;have:id<st.heap.length:=hwl _ h1;rw[ba,mG (by rw[bH];exact this),<-ba];exact h2)
    (λj o' hj=>by
     rw[ba,nG (by rw[bH];omega),bH,show st.heap.length+j-st.heap.length=j by omega,hj];rfl)
    (λid hno hid=>by
     rcases hid with hid|hid
     ·rw[ba,mG (by rw[bH];exact hid),<-ba];exact r7 f.wr st.heap id hno
     ·simp only[RS.hp];rw[ba,ba,fy (by simp[bH];omega),fy ow])
   refine hK _ _ U' ρ' ⟨AT ⟨hc.tm.len,λj c x hx hv=>mono (hc.tm.rv j c x hx hv)⟩ hef.val,hH',?_,F9 hc.kn,?_,λid v h=>hef.rhon id v (hc.r0 id v h)⟩ hW'
   ·intro id hid;simp only[j9,bH]at hid;rw[hef.rho id (.inr hid)];exact hc.new id ow
   ·cases hd:o.dst<;>simp[Act.put,hc.df]
  ·simp at h
 ·simp at h
theorem nl{st:RS}{o:Oper}{a:Act}(hc:Et C st a w U ρ):Et C (mr o st) (a.put o.dst undef) w U ρ:=by
 refine⟨AT hc.tm (.tup [] [] rfl sw),hc.hp,hc.new,F9 hc.kn,?_,hc.r0⟩;cases hd:o.dst<;>simp[Act.put,hc.df]
theorem T7{E:bW}{ops:List Oper}{st:RS}{a:Act}(hc:Et C st a w U ρ)(hgl:sX E.gl w U){j:Nat}{d:Nat}(hd:(ops[j]?).bind (·.dst)=Q1 d):
  (∀b,wE E st.tmps st.known (.tmp d)=.kb b->yielded ops.toArray a.tmps j=Q1 b/\a.tmps[d]?=Q1 (.bool b))/\
  (∀b,wE E st.tmps st.known (.tmp d)=.bool b->yielded ops.toArray a.tmps j=Q1 b/\a.tmps[d]?=Q1 (.bool b))/\
  (∀vs,wE E st.tmps st.known (.tmp d)=.tup vs->yielded ops.toArray a.tmps j=Q2):=by
 have hev:=Hy (E:=E) hc.tm hc.kn hgl (.tmp d);have hd':(ops.toArray[j]?).bind (·.dst)=Q1 d:=by simpa using hd
 have hbool:∀b,a.eval (.tmp d)=.bool b->yielded ops.toArray a.tmps j=Q1 b/\a.tmps[d]?=Q1 (.bool b):=by
  intro b hb;simp only[Act.eval,o5]at hb;have:a.tmps[d]?=Q1 (.bool b):=by
   cases ht:a.tmps[d]? with
   |none=>rw[ht]at hb;simp[undef]at hb
   |some v=>rw[ht]at hb;simp at hb;rw[hb]
  exact⟨by unfold yielded;rw[hd'];simp[this],this⟩
 refine⟨λb hb=>?_,λb hb=>?_,λvs hvs=>?_⟩
 ·rw[hb]at hev;generalize hx:a.eval (.tmp d)=x at hev;cases hev;exact hbool b hx
 ·rw[hb]at hev;generalize hx:a.eval (.tmp d)=x at hev;cases hev;exact hbool b hx
 ·rw[hvs]at hev;generalize hx:a.eval (.tmp d)=x at hev;cases hev with
  |tup _ xs _ _=>
  simp only[Act.eval,o5]at hx;cases ht:a.tmps[d]? with
  |none=>unfold yielded;rw[hd'];simp[ht]
  |some v=>rw[ht]at hx;simp at hx;subst hx;unfold yielded;rw[hd'];simp[ht]
theorem nY{st:RS}{a:Act}{d:Nat}{b:Bool}(hc:Et C st a w U ρ)(hb:a.tmps[d]?=Q1 (.bool b)):Et C {st with known:=(d,b)::st.known} a w U ρ:=by
 refine⟨hc.tm,hc.hp,hc.new,λd' b' h=>?_,hc.df,hc.r0⟩;rw[List.lookup_cons]at h;split at h
 ·simp_all
 ·exact hc.kn d' b' h
theorem RV{E:bW}(hE:zt E){ops:List Oper}{st st':RS}{o:Oper}{a:Act}(h:(ue E ops st o).val=Q1 st')(hc:Et C st a w U ρ)(hW:Wd E.gl C w U)
  (K:Act->World->Prop) (Q:Exit->Act->World->Prop) (hK:∀a' w' U' ρ',Et C st' a' w' U' ρ'->Wd E.gl C w' U'->K a' w'):
  if Region.wanted o (yielded ops.toArray a.tmps)then o.wp E.P a w K Q\/(o.asks E.P a w/\LetsOut Q)else K (a.put o.dst undef) w:=by
 unfold ue at h;split at h
 ·rename_i hg;simp only[Region.wanted,hg,if_true];exact .inl (AM hE h hc hW K Q hK)
 ·rename_i j want hg;split at h
  ·rename_i hd;simp at h;subst h;have hy:yielded ops.toArray a.tmps j=Q2:=by
    have hd':(ops.toArray[j]?).bind (·.dst)=Q2:=by simpa using hd
    unfold yielded;rw[hd'];rfl
   simp only[Region.wanted,hg,hy];rw[if_neg sw];exact hK _ _ U ρ (nl hc) hW
  ·rename_i d hd;obtain⟨hkb,hbb,htt⟩:=T7 (E:=E) hc hW.gl hd;split at h
   ·rename_i b hb;obtain⟨hy,_⟩:=hkb b hb;simp only[Region.wanted,hg,hy];split at h
    ·rename_i hbw;simp at hbw;subst hbw;rw[if_pos sw];exact .inl (AM hE h hc hW K Q hK)
    ·rename_i hbw;simp at h;subst h;rw[if_neg (by simpa using hbw)];exact hK _ _ U ρ (nl hc) hW
   ·rename_i vs hvs;simp at h;subst h;simp only[Region.wanted,hg,htt vs hvs];rw[if_neg sw];exact hK _ _ U ρ (nl hc) hW
   ·rename_i b hb;obtain⟨hy,hslot⟩:=hbb b hb;simp only[Region.wanted,hg,hy];cases b
    ·simp only[Q8,zF,if_false]at h;cases want
     ·simp only[zF,if_false]at h;rw[if_pos sw];exact .inl (AM hE h (nY hc hslot) hW K Q hK)
     ·simp at h;subst h;rw[if_neg sw];exact hK _ _ U ρ (nl (nY hc hslot)) hW
    ·simp only[Q8,if_true]at h;cases want
     ·simp at h;subst h;rw[if_neg sw];exact hK _ _ U ρ (nl (nY hc hslot)) hW
     ·simp only[if_true]at h;rw[if_pos sw];exact .inl (AM hE h (nY hc hslot) hW K Q hK)
   ·simp at h
theorem Cu{E:bW}(hE:zt E){ops:List Oper}{Q:Exit->Act->World->Prop}{st':RS}(hQ:∀a' w' U' ρ',Et C st' a' w' U' ρ'->Wd E.gl C w' U'->Q .normal a' w'):
  ∀(r:List Oper)(k:Nat)(st:RS)(a:Act)(w:World)(U:Nat->Prop)(ρ:Nat->Option Value),r=ops.drop k->(cG E ops r st).val=Q1 st'->Et C st a w U ρ->Wd E.gl C w U->
   wpOps E.P ops.toArray Q (List.range' k r.length) a w
 | [],k,st,a,w,U,ρ,_,h,hc,hW=>by
  simp[cG]at h;subst h;exact hQ a w U ρ hc hW
 | o::r,k,st,a,w,U,ρ,hr,h,hc,hW=>by
  simp only[cG,Tr.val_bind,gm]at h;obtain⟨st1,h1,h2⟩:=h;have hget:ops.toArray[k]?=Q1 o:=by
   have:ops[k]?=Q1 o:=by
    have:=congrArg (·[0]?) hr;simpa[E9]using this.symm
   simpa using this
  have hdrop:r=ops.drop (k+1):=by
   have:=congrArg List.tail hr;simpa using this
  simp only[eE,List.range'_succ,wpOps,hget];exact RV hE h1 hc hW _ _ (λa' w' U' ρ' hc' hW'=>Cu hE hQ r (k+1) st1 a' w' U' ρ' hdrop h2 hc' hW')
end
structure Au (E:bW) (ops:List Oper) (o:Oper) (s s':RS) (r:E6):Prop where
 /--what is known of slots is so -/
 tm:∃v,s'.tmps=qa s.tmps o.dst v
 len:s.heap.length<=s'.heap.length
 way:(∃(kn:List (Nat×Bool))(f:fT),(∀d b,kn.lookup d=Q1 b->s.tmps.getD d .any=.bool b\/s.tmps.getD d .any=.kb b)/\
   (∀j want,o.guard=Q1 (j,want)->∃d,(ops[j]?).bind (·.dst)=Q1 d/\(s.tmps.getD d .any=.bool want\/s.tmps.getD d .any=.kb want))/\
   (pI E (wE E s.tmps kn) s.hp s.heap.length o).val=Q1 f/\Kq s.hp (wE E s.tmps kn) o=Q3/\s'.tmps=qa s.tmps o.dst f.val/\s'.heap=nz s.heap f.wr++f.nw/\
   (∀p∈f.wr,p.1<s.heap.length/\p.1∈uN s.hp (wE E s.tmps kn) o)/\r={fp:=uN s.hp (wE E s.tmps kn) o,wr:=f.wr.map (·.1),base:=s.heap.length,nw:=f.nw.length})\/
  ((∃j want,o.guard=Q1 (j,want)/\((ops[j]?).bind (·.dst)=Q2\/∃d,(ops[j]?).bind (·.dst)=Q1 d/\(s.tmps.getD d .any=.bool (!want)\/s.tmps.getD d .any=.kb (!want)\/∃vs,s.tmps.getD d .any=.tup vs)))/\
   s'.tmps=qa s.tmps o.dst (.tup [])/\s'.heap=s.heap/\r={})
def Xc(s:RS):Prop:=∀d b,s.known.lookup d=Q1 b->s.tmps.getD d .any=.bool b\/s.tmps.getD d .any=.kb b
theorem pM{known:List (Nat×Bool)}{d:Option Tmp}{d':Nat}{b:Bool}(h:(tI known d).lookup d'=Q1 b):known.lookup d'=Q1 b/\d≠Q1 d':=by
 cases d with
 |none=>exact⟨h,sw⟩
 | some d=>
  simp only[tI]at h;have key:∀(k:List (Nat×Bool)),(k.filter λp=>p.1!=d).lookup d'=Q1 b->d'≠d/\k.lookup d'=Q1 b:=by
   intro k
   induction k with
   |nil=>simp
   | cons p k ih=>
    grind
  grind
theorem rg{tmps:List AV}{d:Option Tmp}{v:AV}{s:Nat}(h:d≠Q1 s):(qa tmps d v).getD s .any=tmps.getD s .any:=by
 cases d with
 |none=>rfl
 | some d=>
  simp only[qa,ba];simp_all
theorem Xc.step{s:RS}{o:Oper}{tm:List AV}{v:AV}(h:Xc s)(htm:tm=qa s.tmps o.dst v):∀d b,(tI s.known o.dst).lookup d=Q1 b->tm.getD d .any=.bool b\/tm.getD d .any=.kb b:=by
 intro d b hl;obtain⟨h1,h2⟩:=pM hl;rw[htm,rg h2];exact h d b h1
theorem uP{E:bW}{ops:List Oper}{o:Oper}{s s':RS}(kn:List (Nat×Bool))(h:(EL E o {s with known:=kn}).val=Q1 s')(hk:∀d b,kn.lookup d=Q1 b->s.tmps.getD d .any=.bool b\/s.tmps.getD d .any=.kb b)
  (hg:∀j want,o.guard=Q1 (j,want)->∃d,(ops[j]?).bind (·.dst)=Q1 d/\(s.tmps.getD d .any=.bool want\/s.tmps.getD d .any=.kb want)):∃r,Au E ops o s s' r/\s'.log=s.log++[r]/\Xc s':=by
 unfold EL at h;split at h
 ·rename_i hfp;simp only[Tr.val_bind,gm]at h;obtain⟨f,hf,h⟩:=h;split at h
  ·rename_i hwl;simp at h;subst h;refine⟨_,⟨⟨f.val,rfl⟩,by simp[bH],.inl ⟨kn,f,hk,hg,hf,hfp,rfl,rfl,?_,rfl⟩⟩,rfl,?_⟩
   ·intro p hp;simp only[ei,aE,aO,E7]at hwl;exact hwl p hp
   ·intro d b hl;obtain⟨h1,h2⟩:=pM hl;show(qa s.tmps o.dst f.val).getD d .any=.bool b\/(qa s.tmps o.dst f.val).getD d .any=.kb b;rw[rg h2];exact hk d b h1
  ·simp at h
 ·simp at h
theorem lC{E:bW}{ops:List Oper}{o:Oper}{s:RS}(kn:List (Nat×Bool))(hk:∀d b,kn.lookup d=Q1 b->s.tmps.getD d .any=.bool b\/s.tmps.getD d .any=.kb b)
  (hg:∃j want,o.guard=Q1 (j,want)/\((ops[j]?).bind (·.dst)=Q2\/∃d,(ops[j]?).bind (·.dst)=Q1 d/\(s.tmps.getD d .any=.bool (!want)\/s.tmps.getD d .any=.kb (!want)\/∃vs,s.tmps.getD d .any=.tup vs))):
  ∃r,Au E ops o s (mr o {s with known:=kn}) r/\(mr o {s with known:=kn}).log=s.log++[r]/\Xc (mr o {s with known:=kn}):=by
 refine⟨{},⟨⟨_,rfl⟩,ae _,.inr ⟨hg,rfl,rfl,rfl⟩⟩,rfl,?_⟩;intro d b hl;obtain⟨h1,h2⟩:=pM hl;show(qa s.tmps o.dst (.tup [])).getD d .any=.bool b\/(qa s.tmps o.dst (.tup [])).getD d .any=.kb b;rw[rg h2];exact hk d b h1
theorem D3{E:bW}{ops:List Oper}{o:Oper}{s s':RS}(h:(ue E ops s o).val=Q1 s')(hk:Xc s):∃r,Au E ops o s s' r/\s'.log=s.log++[r]/\Xc s':=by
 have slot:∀d x,wE E s.tmps s.known (.tmp d)=x->(∀b,x=.bool b->s.tmps.getD d .any=.bool b)/\(∀b,x=.kb b->s.tmps.getD d .any=.bool b\/s.tmps.getD d .any=.kb b)/\(∀vs,x=.tup vs->s.tmps.getD d .any=.tup vs):=by
  intro d x hx;simp only[wE]at hx;cases hl:s.known.lookup d with
  | some b=>
   rw[hl]at hx;subst hx;exact⟨sw,λb' hb=>by cases hb;exact hk d _ hl,sw⟩
  | none=>
   simp_all
 unfold ue at h;split at h
 ·rename_i hg;exact uP s.known h hk (λj want hh=>by rw[hg]at hh;cases hh)
 ·rename_i j want hg;split at h
  ·rename_i hd;simp at h;subst h;exact lC s.known hk ⟨j,want,hg,.inl hd⟩
  ·rename_i d hd;split at h
   ·rename_i b hb;have hs:=(slot d _ hb).2.1 b rfl;split at h
    ·rename_i hbw;simp at hbw;subst hbw;exact uP s.known h hk (λj' want' hh=>by simp_all)
    ·rename_i hbw;simp at h;subst h;have:b=!want:=by revert hbw;cases b<;>cases want<;>simp
     subst this;exact lC s.known hk ⟨j,want,hg,.inr ⟨d,hd,hs.elim .inl (λh=>.inr (.inl h))⟩⟩
   ·rename_i vs hvs;simp at h;subst h;exact lC s.known hk ⟨j,want,hg,.inr ⟨d,hd,.inr (.inr ⟨vs,(slot d _ hvs).2.2 vs rfl⟩)⟩⟩
   ·rename_i b hb;have hs:=(slot d _ hb).1 b rfl;have hk':∀x,x=b->∀d' b',((d,x)::s.known).lookup d'=Q1 b'->s.tmps.getD d' .any=.bool b'\/s.tmps.getD d' .any=.kb b':=by
     intro x hx d' b' hl;rw[List.lookup_cons]at hl;split at hl
     ·simp_all
     ·exact hk d' b' hl
    cases b
    ·simp only[Q8,zF,if_false]at h;cases want
     ·simp only[zF,if_false]at h;exact uP _ h (hk' Q4 rfl) (λj' want' hh=>by simp_all)
     ·simp at h;subst h;exact lC _ (hk' Q4 rfl) ⟨j,Q3,hg,.inr ⟨d,hd,.inl hs⟩⟩
    ·simp only[Q8,if_true]at h;cases want
     ·simp at h;subst h;exact lC _ (hk' Q3 rfl) ⟨j,Q4,hg,.inr ⟨d,hd,.inl hs⟩⟩
     ·simp only[if_true]at h;exact uP _ h (hk' Q3 rfl) (λj' want' hh=>by simp_all)
   ·simp at h
theorem sH{E:bW}{ops:List Oper}:∀(r:List Oper)(s sN:RS),(cG E ops r s).val=Q1 sN->Xc s->∃(S:Nat->RS)(R:Nat->E6),S 0=s/\S r.length=sN/\
  (∀i o,r[i]?=Q1 o->Au E ops o (S i) (S (i+1)) (R i))/\sN.log=s.log++(List.range r.length).map R/\Xc sN
 | [],s,sN,h,hk=>by
  simp[cG]at h;subst h;exact⟨λ_=>s,λ_=>{},rfl,rfl,sw,sw,hk⟩
 | o::r,s,sN,h,hk=>by
  simp only[cG,Tr.val_bind,gm]at h;obtain⟨s1,h1,h2⟩:=h;obtain⟨r0,hd,hlog,hk1⟩:=D3 h1 hk;obtain⟨S,R,e0,eN,hS,hL,hkN⟩:=sH r s1 sN h2 hk1;refine⟨λi=>match i with|0=>s|i+1=>S i,λi=>match i with|0=>r0|i+1=>R i,rfl,eN,?_,?_,hkN⟩
  ·grind
  ·rw[hL,hlog];simp[List.range_succ_eq_map,uk]
inductive Xg (ops:List Oper):Nat->Nat->Prop
 |edge {j:Nat} {o:Oper} {e:Edge} (ho:ops[j]?=Q1 o) (he:e∈o.after.toList) (hb:Region.binds .any e=Q3):Xg ops e.on j
 |step {i j:Nat} {o:Oper} {e:Edge} (ho:ops[j]?=Q1 o) (he:e∈o.after.toList) (hb:Region.binds .any e=Q3) (h:Xg ops i e.on):Xg ops i j
theorem G3{ops:List Oper}:∀(r:List Oper)(acc:List (List Nat)),r=ops.drop acc.length->(∀j i,i∈acc.getD j []->Xg ops i j)->∀j i,i∈(Yp r acc).getD j []->Xg ops i j
 |[],acc,_,h=>h
 | o :: r,acc,hr,h=>by
  simp only[Yp];have hget:ops[acc.length]?=Q1 o:=by
   have:=congrArg (·[0]?) hr;simpa[E9]using this.symm
  refine G3 r _ (by
   have:=congrArg List.tail hr;simpa using this) ?_
  intro j i hi;rw[ba]at hi;by_cases hj:j<acc.length
  ·grind
  ·by_cases hj':j=acc.length
   ·subst hj';rw[nG (ae _)]at hi;simp only[Nat.sub_self,List.getElem?_cons_zero,dp,List.mem_flatMap]at hi;obtain⟨e,he,hi⟩:=hi;split at hi
    ·rename_i hb;rcases cr.1 hi with rfl|hi
     ·exact .edge hget he hb
     ·exact .step hget he hb (h _ _ hi)
    ·simp at hi
   grind
section
variable {E:bW} {C:fh} {ops:List Oper} {S:Nat->RS} {R:Nat->E6}
structure pj (E:bW) (C:fh) (ops:List Oper) (S:Nat->RS) (R:Nat->E6) (L:Nat->Prop) (a:Act) (w:World) (U:Nat->Prop) (ρ:Nat->Option Value) (hpD:Nat->AO):Prop where
 cl:∀(j:Nat)(o:Oper)(e:Edge),ops[j]?=Q1 o->L j->e∈o.after.toList->Region.binds .any e=Q3->L e.on
 W:Wd E.gl C w U
 H:jF C w U ρ hpD
 tl:a.tmps.size=(S 0).tmps.length
 tm:∀(s k:Nat),k<=ops.length->(∀(j:Nat)(o:Oper),ops[j]?=Q1 o->o.dst=Q1 s->(L j↔j<k))->Rv w U ρ ((S k).tmps.getD s .any) (a.tmps.getD s undef)
 hp:∀(id k:Nat),k<=ops.length->(∀j,j<ops.length->cV (R j) id=Q3->(L j↔j<k))->(S k).hp id=hpD id
 rn:∀id,(S 0).heap.length<=id->(∀j,j<ops.length->L j->gr (R j) id=Q4)->ρ id=Q2
 df:a.defers=[]
 r0:∀id v,C.ρ0 id=Q1 v->ρ id=Q1 v
theorem Au.slots{o:Oper}{s s':RS}{r:E6}(h:Au E ops o s s' r){t:Nat}(ht:o.dst≠Q1 t):s'.tmps.getD t .any=s.tmps.getD t .any:=by
 obtain⟨v,hv⟩:=h.tm;rw[hv,rg ht]
theorem Au.tlen{o:Oper}{s s':RS}{r:E6}(h:Au E ops o s s' r):s'.tmps.length=s.tmps.length:=by
 obtain⟨v,hv⟩:=h.tm;rw[hv];cases o.dst<;>simp[qa]
theorem Au.wrfp{o:Oper}{s s':RS}{r:E6}(h:Au E ops o s s' r):∀id∈r.wr,id∈r.fp:=by
 rcases h.way with⟨kn,f,_,_,_,_,_,_,hw,rfl⟩|⟨_,_,_,rfl⟩
 ·grind
 ·simp
theorem Au.news{o:Oper}{s s':RS}{r:E6}(h:Au E ops o s s' r){id:Nat}(hn:gr r id=Q3):s.heap.length<=id/\id<s'.heap.length:=by
 rcases h.way with⟨kn,f,_,_,_,_,_,hh,hw,rfl⟩|⟨_,_,_,rfl⟩
 ·simp[gr]at hn;rw[hh];simp[bH];omega
 ·simp[gr]at hn
theorem Au.objs{o:Oper}{s s':RS}{r:E6}(h:Au E ops o s s' r){id:Nat}(ht:cV r id=Q4):s'.hp id=s.hp id:=by
 rcases h.way with⟨kn,f,_,_,_,_,_,hh,hw,rfl⟩|⟨_,_,hh,rfl⟩
 ·simp[cV,gr]at ht;obtain⟨h1,h2⟩:=ht;simp only[RS.hp,hh];by_cases hid:id<s.heap.length
  ·rw[ba,mG (by rw[bH];exact hid),<-ba];exact r7 f.wr s.heap id (λ⟨o',ho'⟩=>h1 o' ho')
  ·rw[ba,ba,fy (by simp[bH];have:=h2 ow;omega),fy ow]
 ·simp only[RS.hp,hh]
theorem ms(hS:∀(i:Nat)(o:Oper),ops[i]?=Q1 o->Au E ops o (S i) (S (i+1)) (R i)){s:Nat}:∀(d i:Nat),i+d<=ops.length->(∀(j:Nat)(o:Oper),ops[j]?=Q1 o->o.dst=Q1 s->i<=j->j<i+d->False)->
  (S (i+d)).tmps.getD s .any=(S i).tmps.getD s .any
 |0,_,_,_=>rfl
 | d+1,i,hle,h=>by
  have hlt:i+d<ops.length:=by omega
  have hget:ops[i+d]?=Q1 ops[i+d]:=zQ hlt;rw[show i+(d+1)=(i+d)+1 by omega,(hS _ _ hget).slots (λe=>h _ _ hget e ow ow)];exact ms hS d i ow (λj o ho hd h1 h2=>h j o ho hd h1 ow)
theorem kk(hS:∀(i:Nat)(o:Oper),ops[i]?=Q1 o->Au E ops o (S i) (S (i+1)) (R i)){id:Nat}:∀(d i:Nat),i+d<=ops.length->(∀j,i<=j->j<i+d->cV (R j) id=Q4)->
  (S (i+d)).hp id=(S i).hp id
 |0,_,_,_=>rfl
 | d+1,i,hle,h=>by
  have hlt:i+d<ops.length:=by omega
  have hget:ops[i+d]?=Q1 ops[i+d]:=zQ hlt;rw[show i+(d+1)=(i+d)+1 by omega,(hS _ _ hget).objs (h _ ow ow)];exact kk hS d i ow (λj h1 h2=>h j h1 ow)
theorem kE(hS:∀(i:Nat)(o:Oper),ops[i]?=Q1 o->Au E ops o (S i) (S (i+1)) (R i)):∀(d i:Nat),i+d<=ops.length->(S i).heap.length<=(S (i+d)).heap.length
 |0,_,_=>ae _
 | d+1,i,hle=>by
  have hlt:i+d<ops.length:=by omega
  have hget:ops[i+d]?=Q1 ops[i+d]:=zQ hlt;exact cC (kE hS d i ow) (hS _ _ hget).len
theorem Ej(hS:∀(i:Nat)(o:Oper),ops[i]?=Q1 o->Au E ops o (S i) (S (i+1)) (R i)):∀i,i<=ops.length->(S i).tmps.length=(S 0).tmps.length
 |0,_=>rfl
 | i+1,h=>by
  have hget:ops[i]?=Q1 ops[i]:=zQ h;rw[(hS _ _ hget).tlen,Ej hS i ow]
theorem C0(hS:∀(i:Nat)(o:Oper),ops[i]?=Q1 o->Au E ops o (S i) (S (i+1)) (R i)){i j id:Nat}(hi:i<ops.length)(hj:j<ops.length)(h1:gr (R i) id=Q3)(h2:gr (R j) id=Q3):i=j:=by
 have gi:=(hS i _ (zQ hi)).news h1;have gj:=(hS j _ (zQ hj)).news h2;rcases Nat.lt_trichotomy i j with h|h|h
 ·have:=kE hS (j-(i+1)) (i+1) ow;grind
 ·exact h
 ·have:=kE hS (i-(j+1)) (j+1) ow;grind
structure SE (ops:List Oper) (R:Nat->E6) (i j:Nat) (a:Nat) (oi oj:Oper):Prop where
 hi:ops[i]?=Q1 oi
 hj:ops[j]?=Q1 oj
 opi:∃t x k,oi.op=.lookup t x k Q4
 opj:∃t m k,oj.op=.mapEntry t m k
 fpi:(R i).fp=[a]
 wri:(R i).wr=[]
 nwi:(R i).nw=0
 wrj:(R j).wr=[a]
 nwj:(R j).nw=0
 sl:(iH oi.dst.toList (eV ops oj)||iH oi.dst.toList oj.dst.toList||iH (eV ops oi) oj.dst.toList)=Q4
 lt:i<j
 oth:∀l,l<ops.length->cV (R l) a=Q3->l<i\/l=j\/(j<l/\Xg ops i l)
structure lK (ops:List Oper) (R:Nat->E6):Prop where
 back:∀(j:Nat)(o:Oper)(e:Edge),ops[j]?=Q1 o->e∈o.after.toList->Region.binds .any e=Q3->e.on<j
 anc:∀(i j:Nat)(oi oj:Oper),i<j->ops[i]?=Q1 oi->ops[j]?=Q1 oj->uz ops oi oj (R i) (R j)=Q3->Xg ops i j\/∃a,SE ops R i j a oi oj
theorem Ni{log:List E6}(h:vn ops log=Q3)(hlog:log=(List.range ops.length).map R):lK ops R:=by
 unfold vn at h;simp only[aE,ei]at h;obtain⟨h1,h2⟩:=h;constructor
 ·intro j o e ho he hb;have hlt:j<ops.length:=(dh.1 ho).1;have hmem:(o,j)∈ops.zipIdx:=by
   rw[List.mem_zipIdx_iff_getElem?];exact ho
  have:=h1 _ hmem e he;simpa[hb]using this
 ·intro i j oi oj hij hi hj hc;have hlt:j<ops.length:=(dh.1 hj).1;have:=h2 j (pp.2 hlt) i (pp.2 hij);have lk:∀k,k<ops.length->log[k]?=Q1 (R k):=by intro k hk;rw[hlog];simp[ym hk]
  have li:log[i]?=Q1 (R i):=lk i ow;have lj:log[j]?=Q1 (R j):=lk j hlt;simp only[hi,hj,li,lj,hc,bS,Bool.false_or,mE,E7]at this;rcases this with this|this
  ·exact .inl (G3 ops [] sw sw j i this)
  ·unfold WG at this;split at this
   ·rename_i t x k t' m k' a b e1 e2 e3 e4;simp only[aE,yo,aZ,ei,List.isEmpty_iff,pp]at this;obtain⟨⟨⟨⟨⟨t1,t2⟩,t3⟩,t4⟩,t5⟩,t6⟩:=this;subst t1;refine .inr ⟨b,hi,hj,⟨t,x,k,e1⟩,⟨t',m,k',e2⟩,e3,t2,t3,e4,t4,t5,hij,λl hl ht=>?_⟩;have:=t6 l hl;rw[lk l hl]at this;simp only[ht,bS,Bool.false_or,mE,aO,aZ,aE,E7]at this;rcases this with(this|this)|⟨this,ha⟩
    ·exact .inl this
    ·exact .inr (.inl this)
    ·exact .inr (.inr ⟨this,G3 ops [] sw sw l i ha⟩)
   ·cases this
theorem SE.touch{i j a:Nat}{oi oj:Oper}(h:SE ops R i j a oi oj)(id:Nat):cV (R i) id=Q4:=by
 unfold cV gr;rw[h.wri,h.nwi];simp
theorem rb{a b:List Nat}:iH a b=Q3↔∃x,x∈a/\x∈b:=by simp[iH]
variable {L:Nat->Prop} {a:Act} {w:World} {U:Nat->Prop} {ρ:Nat->Option Value} {hpD:Nat->AO}
theorem pj.anc(h:pj E C ops S R L a w U ρ hpD){i j:Nat}(ha:Xg ops i j)(hj:L j):L i:=by
 induction ha with
 |edge ho he hb=>exact h.cl _ _ _ ho hj he hb
 |step ho he hb _ ih=>exact ih (h.cl _ _ _ ho hj he hb)
theorem pj.ready(h:pj E C ops S R L a w U ρ hpD){i j:Nat}{o:Oper}(ho:ops[j]?=Q1 o)(hr:∀e∈o.after.toList,Region.binds .any e=Q3->L e.on)(ha:Xg ops i j):L i:=by
 cases ha with
 |edge ho' he hb=>simp_all
 |step ho' he hb hs=>rw[ho]at ho';cases ho';exact h.anc hs (hr _ he hb)
theorem pj.slotAt(hO:lK ops R)(h:pj E C ops S R L a w U ρ hpD){i:Nat}{o:Oper}(ho:ops[i]?=Q1 o)(hn:¬L i)(hr:∀e∈o.after.toList,Region.binds .any e=Q3->L e.on){s:Nat}
  (hs:s∈eV ops o\/o.dst=Q1 s):∀(j:Nat)(oj:Oper),ops[j]?=Q1 oj->oj.dst=Q1 s->(L j↔j<i):=by
 intro j oj hoj hd;constructor
 ·intro hL;rcases Nat.lt_trichotomy j i with hlt|rfl|hlt
  ·exact hlt
  ·exact(hn hL).elim
  ·exfalso;have hc:(iH o.dst.toList (eV ops oj)||iH o.dst.toList oj.dst.toList||iH (eV ops o) oj.dst.toList)=Q3:=by
    simp only[mE,rb];rcases hs with hs|hs
    ·exact .inr ⟨s,hs,by simp[hd]⟩
    ·simp_all
   rcases hO.anc i j o oj hlt ho hoj (by unfold uz;simp only[hc,Bool.true_or])with ha|⟨b,hb⟩
   ·exact hn (h.anc ha hL)
   ·rw[hb.sl]at hc;cases hc
 ·intro hlt;have hc:(iH oj.dst.toList (eV ops o)||iH oj.dst.toList o.dst.toList||iH (eV ops oj) o.dst.toList)=Q3:=by
   simp only[mE,rb];rcases hs with hs|hs
   ·simp_all
   ·simp_all
  rcases hO.anc j i oj o hlt hoj ho (by unfold uz;simp only[hc,Bool.true_or])with ha|⟨b,hb⟩
  ·exact h.ready ho hr ha
  ·rw[hb.sl]at hc;cases hc
theorem pj.objAt(hS:∀(i:Nat)(o:Oper),ops[i]?=Q1 o->Au E ops o (S i) (S (i+1)) (R i))(hO:lK ops R)(h:pj E C ops S R L a w U ρ hpD){i:Nat}{o:Oper}(ho:ops[i]?=Q1 o)(hn:¬L i)
  (hr:∀e∈o.after.toList,Region.binds .any e=Q3->L e.on) {id:Nat} (hs:id∈(R i).fp\/cV (R i) id=Q3) (hns:∀j a oj,¬(SE ops R i j a o oj/\L j)):∀j,j<ops.length->cV (R j) id=Q3->(L j↔j<i):=by
 intro j hj ht;have hi:i<ops.length:=(dh.1 ho).1;have hoj:ops[j]?=Q1 ops[j]:=zQ hj;have hwi:=(hS i o ho).wrfp;have hwj:=(hS j _ hoj).wrfp;have tj:id∈(R j).wr\/gr (R j) id=Q3:=by simpa[cV]using ht
 have ti:id∈(R i).fp\/gr (R i) id=Q3:=by
  rcases hs with hs|hs
  ·exact .inl hs
  ·have:id∈(R i).wr\/gr (R i) id=Q3:=by simpa[cV]using hs
   exact this.imp (hwi id) (λx=>x)
 by_cases hij:i=j
 ·simp_all
 have hclash:∀(oi oj:Oper),uz ops oi oj (R i) (R j)=Q3/\uz ops oj oi (R j) (R i)=Q3:=by
  intro oi oj;unfold uz;simp only[mE,rb,List.any_eq_true];rcases ti with ti|ti<;>rcases tj with tj|tj
  ·grind
  ·grind
  ·grind
  ·exact(hij (C0 hS hi hj ti tj)).elim
 constructor
 ·intro hL;rcases Nat.lt_or_gt_of_ne hij with hlt|hlt
  ·rcases hO.anc i j o _ hlt ho hoj (hclash o _).1 with ha|⟨b,hb⟩
   ·exact(hn (h.anc ha hL)).elim
   ·exact(hns _ _ _ ⟨hb,hL⟩).elim
  ·exact hlt
 ·intro hlt;rcases hO.anc j i _ o hlt hoj ho (hclash o _).2 with ha|⟨b,hb⟩
  ·exact h.ready ho hr ha
  ·rw[hb.touch id]at ht;cases ht
theorem R4(es:List ((Int×Int×zB)×Int))(v k:Int×Int×zB):gB (jV es v) k=gB es k:=by
 unfold jV;cases nv es v with
 |true=>rfl
 | false=>
  simp only[aq,gB,List.find?_append];grind
theorem EJ{P:Program}{hp hp':Nat->AO}{t:TypeId}{x i:AV}{f:fT}{b:Nat}{es:List ((Int×Int×zB)×Int)}{v:Int×Int×zB}(h:(kY P hp t x i false).val=some f)(hx:∀id∈x.ids,id=b)
  (h1:hp b=.vmap Q4 es) (h2:hp' b=.vmap Q4 (jV es v)):(kY P hp' t x i Q4).val=Q1 f:=by
 cases x with
 | mp id=>
  have:id=b:=hx id (by simp[AV.ids]);subst this;unfold kY at h⊢;cases hu:P.underlying t with
  |none=>simp[hu]at h
  | some u=>
   cases u with
   | map kt et=>
    simp only[hu]at h⊢;cases hk:P.underlying kt with
    |none=>simp[hk]at h
    | some ku=>
     cases ku with
     |string=>grind
     | struct fs=>
      simp only[hk]at h⊢;split at h
      ·rename_i hv;rw[if_pos hv];cases hvk:R5 i with
       |none=>simp[hvk]at h
       | some v1=>
        simp only[hvk,h1,zF,if_false]at h;simp only[h2,zF,if_false,R4];exact h
      ·simp at h
     |_=>simp[hk]at h
   |_=>simp[hu]at h
 | _=>
  exfalso;unfold kY at h;split at h
  ·split at h
   ·split at h<;>simp_all
   ·simp_all
   ·simp at h
  ·simp at h
end
section
variable {E:bW} {C:fh} {ops:List Oper} {S:Nat->RS} {R:Nat->E6} {L:Nat->Prop} {a:Act} {w:World} {U:Nat->Prop} {ρ:Nat->Option Value} {hpD:Nat->AO}
theorem V5{a:Act}{d:Option Tmp}{v:Value}{s:Nat}(h:d≠Q1 s):(a.put d v).tmps.getD s undef=a.tmps.getD s undef:=by
 cases d with
 |none=>rfl
 | some d=>
  simp only[Act.put,o5];simp_all
theorem V6{a:Act}{d:Option Tmp}{v:Value}:(a.put d v).tmps.size=a.tmps.size:=by
 cases d<;>simp[Act.put]
theorem No{a:Act}{d:Option Tmp}{v:Value}:(a.put d v).defers=a.defers:=by
 cases d<;>rfl
theorem KZ{a:Act}{s:Nat}{v:Value}{c:AV}{tmps:List AV}(hl:tmps.length=a.tmps.size)(h:Rv w U ρ c v):Rv w U ρ ((qa tmps (Q1 s) c).getD s .any) ((a.put (Q1 s) v).tmps.getD s undef):=by
 simp only[qa,Act.put,ba,o5];by_cases hs:s<tmps.length
 ·simp_all
 ·rw[yp,if_pos rfl,if_neg hs];exact .any _
theorem pj.next(hS:∀(i:Nat)(o:Oper),ops[i]?=Q1 o->Au E ops o (S i) (S (i+1)) (R i))(hO:lK ops R)(h:pj E C ops S R L a w U ρ hpD){i:Nat}{o:Oper}(ho:ops[i]?=Q1 o)(hn:¬L i)
  (hr:∀e∈o.after.toList,Region.binds .any e=Q3->L e.on) {v:Value} {w':World} {U':Nat->Prop} {ρ':Nat->Option Value} {hpD':Nat->AO} (hW:Wd E.gl C w' U') (hH:jF C w' U' ρ' hpD')
  (mono:∀{c:AV}{x:Value},Rv w U ρ c x->Rv w' U' ρ' c x) (hv:∀s,o.dst=Q1 s->Rv w' U' ρ' ((S (i+1)).tmps.getD s .any) ((a.put o.dst v).tmps.getD s undef))
  (hobj:∀id,hpD' id=if cV (R i) id then(S (i+1)).hp id else hpD id) (hrho:∀id,gr (R i) id=Q4->ρ' id=ρ id) (hrhon:∀id v,ρ id=Q1 v->ρ' id=Q1 v):
  pj E C ops S R (λj=>L j\/j=i) (a.put o.dst v) w' U' ρ' hpD':=by
 have hi:i<ops.length:=(dh.1 ho).1;refine⟨?_,hW,hH,by rw[V6];exact h.tl,?_,?_,?_,by rw[No];exact h.df,λid v h'=>hrhon id v (h.r0 id v h')⟩
 ·intro j oj e hoj hL he hb;rcases hL with hL|rfl
  ·exact .inl (h.cl j oj e hoj hL he hb)
  simp_all
 ·intro s k hk hcons;by_cases hd:o.dst=Q1 s
  ·have hik:i<k:=(hcons i o ho hd).1 (.inr rfl);have hno:∀(j:Nat)(oj:Oper),ops[j]?=Q1 oj->oj.dst=Q1 s->i+1<=j->j<k->False:=by
    intro j oj hoj hdj h1 h2;have hLj:=(hcons j oj hoj hdj).2 h2;rcases hLj with hLj|rfl
    ·have:=(h.slotAt hO ho hn hr (.inr hd) j oj hoj hdj).1 hLj;omega
    ·omega
   have hb:=ms hS (s:=s) (k-(i+1)) (i+1) ow (λj oj hoj hdj h1 h2=>hno j oj hoj hdj h1 ow);grind
  ·rw[V5 hd];refine mono (h.tm s k hk (λj oj hoj hdj=>?_));grind
 ·intro id k hk hcons;rw[hobj id];by_cases ht:cV (R i) id=Q3
  ·rw[if_pos ht];have hik:i<k:=(hcons i hi ht).1 (.inr rfl);have hb:=kk hS (id:=id) (k-(i+1)) (i+1) ow (λj h1 h2=>by
    by_cases htj:cV (R j) id=Q3
    ·exfalso;have hLj:=(hcons j ow htj).2 ow;rcases hLj with hLj|rfl
     ·have:=(h.objAt hS hO ho hn hr (.inr ht) (λ_ _ _ hh=>by rw[hh.1.touch id]at ht;cases ht) j ow htj).1 hLj;omega
     ·omega
    ·simpa using htj)
   grind
  ·rw[if_neg ht];refine h.hp id k hk (λj hj htj=>?_);grind
 ·intro id h0 hnew;have hi':=hnew i hi (.inr rfl);rw[hrho id hi'];exact h.rn id h0 (λj hj hL=>hnew j hj (.inl hL))
theorem Ht{P:Program}{hp:Nat->AO}{t:TypeId}{m k:AV}{f:fT}{b:Nat}(h:(uJ P hp t m k).val=Q1 f)(hw:f.wr.map (·.1)=[b]):
  ∃es v,hp b=.vmap Q4 es/\f.wr=[(b,.vmap Q4 (jV es v))]/\f.nw=[]:=by
 unfold uJ at h;split at h
 ·split at h
  ·split at h
   ·rename_i id v _;split at h
    ·rename_i es hid;split at h
     ·split at h
      ·simp only[Q8]at h;grind
      ·simp at h
     ·simp at h
    ·simp at h
   ·simp at h
  ·simp at h
 ·simp at h
theorem pj.objX(hS:∀(i:Nat)(o:Oper),ops[i]?=Q1 o->Au E ops o (S i) (S (i+1)) (R i))(hO:lK ops R)(h:pj E C ops S R L a w U ρ hpD){i:Nat}{o:Oper}(ho:ops[i]?=Q1 o)(hn:¬L i)
  (hr:∀e∈o.after.toList,Region.binds .any e=Q3->L e.on) {kn:List (Nat×Bool)} {f:fT} {n:Nat} (hf:(pI E (wE E (S i).tmps kn) (S i).hp n o).val=Q1 f) (hRfp:(R i).fp=uN (S i).hp (wE E (S i).tmps kn) o)
  (hfp:Kq (S i).hp (wE E (S i).tmps kn) o=Q3):∃hpX:Nat->AO,(pI E (wE E (S i).tmps kn) hpX n o).val=Q1 f/\(∀id,id∈(R i).fp\/cV (R i) id=Q3->hpX id=hpD id)/\
   (tq o.op=Q3->∀id∈(R i).fp,∀j∈(hpX id).ids,j∈(R i).fp):=by
 have hi:i<ops.length:=(dh.1 ho).1;obtain⟨hin,hcl⟩:=CF hfp;by_cases hs:∃j b oj,SE ops R i j b o oj/\L j
 ·obtain⟨j,b,oj,hs,hLj⟩:=hs;have hjl:j<ops.length:=(dh.1 hs.hj).1;have hlt:=hs.lt;have hcons:∀l,l<ops.length->cV (R l) b=Q3->(L l↔l<j+1):=by
   intro l hl ht;rcases hs.oth l hl ht with h1|rfl|⟨h1,h2⟩
   ·refine⟨λ_=>by omega,λ_=>?_⟩;have hc:uz ops ops[l] o (R l) (R i)=Q3:=by
     unfold uz;simp only[mE,rb,List.any_eq_true];have tl:b∈(R l).wr\/gr (R l) b=Q3:=by simpa[cV]using ht
     have bi:b∈(R i).fp:=by rw[hs.fpi];simp
     rcases tl with tl|tl
     ·grind
     ·exact .inl (.inr ⟨b,bi,tl⟩)
    rcases hO.anc l i _ o h1 (zQ hl) ho hc with ha|⟨b',hb'⟩
    ·exact h.ready ho hr ha
    ·rw[hb'.touch b]at ht;cases ht
   ·simp_all
   ·exact⟨λhL=>(hn (h.anc h2 hL)).elim,λhlt=>by omega⟩
  have e1:(S (j+1)).hp b=hpD b:=h.hp b (j+1) ow hcons;have e2:(S j).hp b=(S i).hp b:=by
   have:=kk hS (id:=b) (j-i) i ow (λl h1 h2=>by
    by_cases ht:cV (R l) b=Q3
    ·rcases hs.oth l ow ht with h3|h3|⟨h3,_⟩<;>omega
    ·simpa using ht)
   rwa [show i+(j-i)=j by omega]at this
  obtain⟨t,m,k,hop⟩:=hs.opj;rcases(hS j oj hs.hj).way with⟨kn',f',_,_,hf',_,_,hhp,hwr,hR'⟩|⟨_,_,_,hR'⟩
  ·have hw:f'.wr.map (·.1)=[b]:=by rw[<-hs.wrj,hR']
   unfold pI at hf';rw[hop]at hf';simp only at hf';obtain⟨es,v,h3,h4,h5⟩:=Ht hf' hw;have hb:=(hwr (b,.vmap Q4 (jV es v)) (by rw[h4];simp)).1;have e3:(S (j+1)).hp b=.vmap Q4 (jV es v):=by
    simp only[RS.hp,hhp,h4,h5,nz,yr];rw[ba,List.getElem?_set_self hb];rfl
   obtain⟨t2,x2,k2,hop2⟩:=hs.opi;refine⟨(S (j+1)).hp,?_,?_,?_⟩
   ·unfold pI at hf⊢;rw[hop2]at hf⊢;simp only at hf⊢;refine EJ hf (λid hid=>?_) (by rw[<-e2];exact h3) e3;have:=hin (by rw[hop2];rfl) x2 (by rw[hop2];simp[Op.operands]) id hid;rw[<-hRfp,hs.fpi]at this;simpa using this
   ·intro id hid;rcases hid with hid|hid
    ·rw[hs.fpi]at hid;simp_all
    ·rw[hs.touch]at hid;cases hid
   ·intro _ id hid;rw[hs.fpi]at hid;simp at hid;subst hid;rw[e3];simp[AO.ids]
  ·have:=hs.wrj;rw[hR']at this;cases this
 ·refine⟨(S i).hp,hf,λid hid=>h.hp id i ow (h.objAt hS hO ho hn hr hid (λj a oj hh=>hs ⟨j,a,oj,hh⟩)),?_⟩;rw[hRfp];exact hcl
theorem Y8(hE:zt E)(hS:∀(i:Nat)(o:Oper),ops[i]?=Q1 o->Au E ops o (S i) (S (i+1)) (R i))(hO:lK ops R)(h:pj E C ops S R L a w U ρ hpD){i:Nat}{o:Oper}(ho:ops[i]?=Q1 o)(hn:¬L i)
  (hr:∀e∈o.after.toList,Region.binds .any e=Q3->L e.on) (K:Act->World->Prop) (Q:Exit->Act->World->Prop)
  (hK:∀a' w' U' ρ' hpD',pj E C ops S R (λj=>L j\/j=i) a' w' U' ρ' hpD'->K a' w'):wpOp E.P ops.toArray Q i K a w:=by
 have hi:i<ops.length:=(dh.1 ho).1;have hget:ops.toArray[i]?=Q1 o:=by simpa using ho
 have hdid:=hS i o ho;have hslot:∀s,s∈eV ops o->Rv w U ρ ((S i).tmps.getD s .any) (a.tmps.getD s undef):=λs hs=>h.tm s i ow (h.slotAt hO ho hn hr (.inl hs))
 have hlen:(S i).tmps.length=a.tmps.size:=by rw[Ej hS i ow,h.tl]
 have hguard:∀(j:Nat)(want:Bool) d,o.guard=Q1 (j,want)->(ops[j]?).bind (·.dst)=Q1 d->Rv w U ρ ((S i).tmps.getD d .any) (a.tmps.getD d undef):=by
  intro j want d hg hd;refine hslot d ?_;simp only[eV,hg,cQ];exact .inr (by simp[hd])
 have yieldOf:∀(j:Nat)(d:Nat)(b:Bool),(ops[j]?).bind (·.dst)=Q1 d->a.tmps.getD d undef=.bool b->yielded ops.toArray a.tmps j=Q1 b:=by
  intro j d b hd hb;have hd':(ops.toArray[j]?).bind (·.dst)=Q1 d:=by simpa using hd
  rw[o5]at hb;have:a.tmps[d]?=Q1 (.bool b):=by
   cases ht:a.tmps[d]? with
   |none=>rw[ht]at hb;simp[undef]at hb
   |some v=>rw[ht]at hb;simp at hb;rw[hb]
  unfold yielded;rw[hd'];simp[this]
 have boolOf:∀(c:AV)(x:Value)(b:Bool),Rv w U ρ c x->(c=.bool b\/c=.kb b)->x=.bool b:=by
  rintro c x b hr (rfl|rfl)<;>cases hr<;>rfl
 unfold wpOp;rw[hget];show(if Region.wanted o (yielded ops.toArray a.tmps)then _ else _);rcases hdid.way with⟨kn,f,hkn,hg,hf,hfp,htm,hhp,hwr,hR⟩|⟨⟨j,want,hg,hcase⟩,htm,hhp,hR⟩
 ·
  have hw:Region.wanted o (yielded ops.toArray a.tmps)=Q3:=by
   unfold Region.wanted;split
   ·rfl
   ·grind
  rw[if_pos hw];refine .inl ?_;obtain⟨hin,_⟩:=CF hfp;have hRfp:(R i).fp=uN (S i).hp (wE E (S i).tmps kn) o:=by rw[hR]
  obtain⟨hpX,hfX,hobjs,hcl⟩:=h.objX hS hO ho hn hr hf hRfp hfp;rw[hRfp]at hcl;have hRn:∀id,gr (R i) id=Q3↔(S i).heap.length<=id/\id<(S i).heap.length+f.nw.length:=by intro id;rw[hR];simp[gr]
  have hRt:∀id,cV (R i) id=Q3↔(∃o',(id,o')∈f.wr)\/((S i).heap.length<=id/\id<(S i).heap.length+f.nw.length):=by
   intro id;rw[hR];simp[cV,gr]
  have hnone:∀j,j<f.nw.length->ρ ((S i).heap.length+j)=Q2:=by
   intro j hj;have hm:=kE hS i 0 ow;rw[jJ]at hm;refine h.rn _ ow (λj' hj' hL=>?_);by_cases hin':gr (R j') ((S i).heap.length+j)=Q3
   ·have:=C0 hS hi hj' ((hRn _).2 ⟨ow,ow⟩) hin';subst this;exact(hn hL).elim
   ·simpa using hin'
  obtain⟨hwp,_⟩:=F1 hE (w:=w) (U:=U) (ρ:=ρ) (a:=a) (fp:=uN (S i).hp (wE E (S i).tmps kn) o) hfX (λx hx=>by
    cases x with
    | tmp t=>
     have hst:t∈eV ops o:=by
      simp only[eV,cQ,List.mem_filterMap];exact .inl ⟨.tmp t,hx,rfl⟩
     have:=hslot t hst;simp only[wE,Act.eval];cases hk:kn.lookup t with
     | some b=>
      rw[boolOf _ _ b this (hkn t b hk)];exact .kb b
     |none=>exact this
    |const v=>exact qH v
    |global g=>exact(h.W.gl g).mono (ae _) (λ_ _ _=>rfl) (λ_ _ h=>h) (λ_ _ h=>by cases h)
    |func f=>simp only[wE,Act.eval];exact .clo (.func f) [] [] [] [] rfl rfl sw sw)
   h.W.ub h.W.gl
   ⟨λid hid=>by rw[hobjs id (.inl (by rw[hRfp];exact hid))];exact h.H.ob id,λid1 h1 id2 h2 b=>by
    rw[hobjs id1 (.inl (by rw[hRfp];exact h1)),hobjs id2 (.inl (by rw[hRfp];exact h2))];exact h.H.inj id1 id2 b⟩ hin hcl hnone
  refine hwp K Q (λv w' U' ρ' hef=>?_);have hwl:∀p∈f.wr,p.1<(S i).heap.length:=λp hp=>(hwr p hp).1
  have hnext:∀id,cV (R i) id=Q3->(S (i+1)).hp id=(nz (S i).heap f.wr++f.nw).getD id .dead:=by
   intro id _;simp only[RS.hp,hhp]
  obtain⟨hW',hH',mono⟩:=BJ (hp':=λid=>if cV (R i) id then(S (i+1)).hp id else hpD id) h.W h.H hef (λid o' hid=>hobjs id (.inr ((hRt id).2 (.inl ⟨o',hid⟩))))
   (λid hex=>by
    obtain⟨o',h1,h2⟩:=r8 f.wr (S i).heap id hwl hex;have ht:=(hRt id).2 (.inl hex);refine⟨o',h1,?_⟩;show(if cV (R i) id then(S (i+1)).hp id else hpD id)=o';rw[if_pos ht,hnext id ht];have:id<(S i).heap.length:=hwl _ h1;rw[ba,mG (by rw[bH];exact this),<-ba];exact h2)
   (λj o' hj=>by
    have hlt:=(dh.1 hj).1;have ht:=(hRt ((S i).heap.length+j)).2 (.inr ⟨ow,ow⟩);show(if cV (R i) _ then(S (i+1)).hp _ else hpD _)=o';rw[if_pos ht,hnext _ ht];rw[ba,nG (by rw[bH];omega),bH,show(S i).heap.length+j-(S i).heap.length=j by omega,hj];rfl)
   (λid hno hid=>by
    grind)
  refine hK _ _ U' ρ' _ (h.next hS hO ho hn hr hW' hH' mono ?_ (λid=>rfl) (λid hid=>hef.rho id ?_) hef.rhon)
  ·intro s hs;rw[htm,hs];exact KZ hlen hef.val
  grind
 ·
  have hw:¬Region.wanted o (yielded ops.toArray a.tmps)=Q3:=by
   unfold Region.wanted;rw[hg];simp only[aZ];rcases hcase with hd|⟨d,hd,hv⟩
   ·have hd':(ops.toArray[j]?).bind (·.dst)=Q2:=by simpa using hd
    unfold yielded;rw[hd'];simp
   ·have hrv:=hguard j want d hg hd;rcases hv with hv|hv|⟨vs,hv⟩
    ·grind
    ·rw[yieldOf j d _ hd (boolOf _ _ _ hrv (.inr hv))];cases want<;>simp
    ·rw[hv]at hrv;have hd':(ops.toArray[j]?).bind (·.dst)=Q1 d:=by simpa using hd
     generalize hx:a.tmps.getD d undef=x at hrv;cases hrv with
     |tup _ xs _ _=>
     rw[o5]at hx;unfold yielded;grind
  rw[if_neg hw];have hRt:∀id,cV (R i) id=Q4:=by intro id;rw[hR];simp[cV,gr]
  refine hK _ _ U ρ hpD (h.next hS hO ho hn hr h.W h.H (λh=>h) ?_ (λid=>by rw[hRt id];rfl) (λ_ _=>rfl) (λ_ _ h=>h));intro s hs;rw[htm,hs];exact KZ hlen (.tup [] [] rfl sw)
def dG(listed:Array Bool)(j:Nat):Prop:=listed.getD j Q4=Q3
theorem Na{listed:Array Bool}{i:Nat}(hi:i<listed.size):dG (listed.setIfInBounds i Q3)=λj=>dG listed j\/j=i:=by
 funext j;unfold dG;simp only[o5];grind
theorem GJ{listed:Array Bool}{i:Nat}(hsz:listed.size=ops.length)(h:i∈Region.ready .any ops.toArray listed):
  ∃o,ops[i]?=Q1 o/\¬dG listed i/\∀e∈o.after.toList,Region.binds .any e=Q3->dG listed e.on:=by
 unfold Region.ready at h;simp only[List.mem_filter,pp,aE]at h;obtain⟨hi,h1,h2⟩:=h;simp at hi;have hget:ops[i]?=Q1 ops[i]:=zQ hi;refine⟨ops[i],hget,?_,λe he hb=>?_⟩
 ·unfold dG;simp_all
 ·have h2':(ops[i].after.all λe=>!Region.binds .any e||listed.getD e.on Q4)=Q3:=by
   have:ops.toArray[i]?=Q1 ops[i]:=by simp
   rw[this]at h2;simpa using h2
  rw[<-Array.all_toList]at h2';have:=ei.1 h2' e he;simp[hb]at this;unfold dG;simp_all
theorem RP{listed:Array Bool}(hsz:listed.size=ops.length)(hback:∀(j:Nat)(o:Oper)(e:Edge),ops[j]?=Q1 o->e∈o.after.toList->Region.binds .any e=Q3->e.on<j)
  (h:Region.ready .any ops.toArray listed=[]):∀j,j<ops.length->dG listed j:=by
 intro j
 induction j using Nat.strongRecOn with
 | _ j ih=>
  intro hj;apply te;intro hn;have hget:ops[j]?=Q1 ops[j]:=zQ hj;have:j∈Region.ready .any ops.toArray listed:=by
   unfold Region.ready;simp only[List.mem_filter,pp,aE];refine⟨by simpa using hj,?_,?_⟩
   ·unfold dG at hn;simp_all
   ·have h1:ops.toArray[j]?=Q1 ops[j]:=by simp
    rw[h1];simp only[yu,dp];rw[<-Array.all_toList,ei];intro e he;by_cases hb:Region.binds .any e=Q3
    ·have hlt:=hback j _ e hget he hb;have:=ih e.on hlt ow;simp only[hb,bS,Bool.false_or];exact this
    ·simp[hb]
  rw[h]at this;simp at this
theorem L3(hE:zt E)(hS:∀(i:Nat)(o:Oper),ops[i]?=Q1 o->Au E ops o (S i) (S (i+1)) (R i))(hO:lK ops R){Q:Exit->Act->World->Prop}
  (hQ:∀a w U ρ hpD(L:Nat->Prop),(∀j,j<ops.length->L j)->pj E C ops S R L a w U ρ hpD->Q .normal a w):
  ∀(fuel:Nat)(listed:Array Bool)(a:Act)(w:World)(U:Nat->Prop)(ρ:Nat->Option Value)(hpD:Nat->AO),listed.size=ops.length->(listed.toList.filter (! ·)).length<=fuel->
   pj E C ops S R (dG listed) a w U ρ hpD->wpAny E.P .any ops.toArray Q fuel listed a w
 | 0,listed,a,w,U,ρ,hpD,hsz,hf,h=>by
  have hall:∀b∈listed.toList,b=Q3:=by
   have:listed.toList.filter (! ·)=[]:=Ah ow;intro b hb;have:=List.filter_eq_nil_iff.1 this b hb;simpa using this
  have hL:∀j,j<ops.length->dG listed j:=by
   intro j hj;unfold dG;rw[o5,td ow];exact hall _ sw
  refine⟨?_,hQ a w U ρ hpD _ hL h⟩;apply List.eq_nil_iff_forall_not_mem.2;intro i hi;obtain⟨o,ho,hn,_⟩:=GJ hsz hi;grind
 | fuel+1,listed,a,w,U,ρ,hpD,hsz,hf,h=>by
  refine⟨λhnil=>hQ a w U ρ hpD _ (RP hsz hO.back hnil) h,λi hi=>?_⟩;obtain⟨o,ho,hn,hr⟩:=GJ hsz hi;have hilt:i<listed.size:=by rw[hsz];exact(dh.1 ho).1
  refine Y8 hE hS hO h ho hn hr _ Q (λa' w' U' ρ' hpD' h'=>?_);refine L3 hE hS hO hQ fuel _ a' w' U' ρ' hpD' (by simpa using hsz) ?_ (by rw[Na hilt];exact h');have hfalse:listed.toList[i]'(by simpa using hilt)=Q4:=by
   unfold dG at hn;rw[o5,td hilt]at hn;simpa using hn
  have key:∀(l:List Bool)(i:Nat)(hi:i<l.length),l[i]=Q4->(l.filter (! ·)).length=((l.set i Q3).filter (! ·)).length+1:=by
   intro l
   induction l with
   |nil=>intro i hi;simp at hi
   | cons b l ih=>
    intro i hi hb;cases i with
    |zero=>simp at hb;subst hb;simp
    | succ i=>
     grind
  grind
theorem Lw(hE:zt E){id:Nat}{s0 sN:RS}(h:(cG E ops ops s0).val=Q1 sN)(h0:s0.log=[])(hk0:s0.known=[])(hord:vn ops sN.log=Q3)(hc:Et C s0 a w U ρ)(hW:Wd E.gl C w U):
  (Code.region id ops.toArray Q3).wp E.P (λe a' w'=>e=.normal/\∃U' ρ',Et C sN a' w' U' ρ'/\Wd E.gl C w' U') a w:=by
 obtain⟨S,R,e0,eN,hS,hL,hkN⟩:=sH ops s0 sN h (by intro d b hl;rw[hk0]at hl;simp at hl);have hO:lK ops R:=Ni hord (by rw[hL,h0];simp);have hd:mg w {w with drawn:=w.drawn+1}:=⟨ae _,rfl,rfl,rfl,λ_ _=>rfl⟩;refine wp_region_any hE.mix (L3 (C:=C) hE hS hO ?_ ops.toArray.size (Array.replicate ops.toArray.size Q4) a {w with drawn:=w.drawn+1} U ρ s0.hp sw sw ?_)
 ·intro a' w' U' ρ' hpD L hall hI;refine⟨rfl,U',ρ',⟨⟨?_,λj c v hc hv=>?_⟩,?_,?_,?_,hI.df,hI.r0⟩,hI.W⟩
  ·rw[<-eN,Ej hS _ (ae _),<-hI.tl];simp
  ·have:=hI.tm j ops.length (ae _) (λj' o' ho' _=>⟨λ_=>(dh.1 ho').1,λhlt=>hall j' hlt⟩);simp_all
  ·have:sN.hp=hpD:=by
    funext id;have:=hI.hp id ops.length (ae _) (λj hj _=>⟨λ_=>hj,λhlt=>hall j hlt⟩);rw[eN]at this;exact this
   rw[this];exact hI.H
  ·intro id hid;rw[<-eN]at hid;have hm0:=kE hS ops.length 0 ow;rw[jJ]at hm0;refine hI.rn id ow (λj hj _=>?_);by_cases hin:gr (R j) id=Q3
   ·have:=((hS j _ (zQ hj)).news hin).2;have hm1:=kE hS (ops.length-(j+1)) (j+1) ow;grind
   ·simpa using hin
  ·intro d b hl;have hsl:=hI.tm d ops.length (ae _) (λj' o' ho' _=>⟨λ_=>(dh.1 ho').1,λhlt=>hall j' hlt⟩);rw[eN]at hsl;have hb:a'.tmps.getD d undef=.bool b:=by
    rcases hkN d b hl with h1|h1<;>rw[h1]at hsl<;>generalize a'.tmps.getD d undef=x at hsl<;>cases hsl<;>rfl
   rw[o5]at hb;cases ht:a'.tmps[d]? with
   |none=>rw[ht]at hb;simp[undef]at hb
   |some v=>rw[ht]at hb;simp at hb;rw[hb]
 ·have hnone:∀j,¬dG (Array.replicate ops.toArray.size Q4) j:=by
   intro j;unfold dG;rw[o5,Array.getElem?_replicate];split<;>simp
  have hmono:∀{c:AV}{x:Value},Rv w U ρ c x->Rv {w with drawn:=w.drawn+1} U ρ c x:=λh=>h.mono (w:=w) (w':={w with drawn:=w.drawn+1}) (ae _) (λ_ _ _=>rfl) (λ_ _ h=>h) (λ_ _ h=>h)
  refine⟨λj o e ho hL=>(hnone j hL).elim,⟨hW.ext.trans hd,hW.same,hW.ub,hW.u1,hW.u2,λg=>(hW.gl g).mono (w:=w) (w':={w with drawn:=w.drawn+1}) (ae _) (λ_ _ _=>rfl) (λ_ _ h=>h) (λ_ _ h=>h)⟩,
   ⟨λid=>(hc.hp.ob id).mono (w:=w) (w':={w with drawn:=w.drawn+1}) (ae _) (λ_ _ _=>rfl) (λ_ _ h=>h) (λ_ _ h=>h) (λb ho=>⟨rfl,((hc.hp.ob id).inU ho).1⟩),hc.hp.inj,hc.hp.blk⟩,?_,?_,?_,?_,hc.df,hc.r0⟩
  ·rw[e0];have:=hc.tm.len;simp at this;exact this.symm
  ·intro s k hk hcons;have hsame:(S k).tmps.getD s .any=(S 0).tmps.getD s .any:=by
    have:=ms hS (s:=s) k 0 ow (λj o ho hd h1 h2=>hnone j ((hcons j o ho hd).2 ow))
    rwa [jJ]at this
   rw[hsame,e0];by_cases hs:s<s0.tmps.length
   ·have hs':s<a.tmps.toList.length:=by rw[<-hc.tm.len];exact hs
    refine hmono (hc.tm.rv s _ _ (by simp_all) ?_);simp_all
   ·rw[ba,fy ow];exact .any _
  ·intro id k hk hcons;have:=kk hS (id:=id) k 0 ow (λj h1 h2=>by
    grind)
   simp_all
  ·intro id hid _;rw[e0]at hid;exact hc.new id hid
end
structure Cn (C:fh) (st:St) (a:Act) (w:World) (U:Nat->Prop) (ρ:Nat->Option Value):Prop where
 tm:du w U ρ st.tmps a.tmps.toList
 hp:jF C w U ρ st.hp
 new:∀id,st.heap.length<=id->ρ id=Q2
 df:a.defers=[]
 r0:∀id v,C.ρ0 id=Q1 v->ρ id=Q1 v
section
variable {E:bW} {C:fh} {a:Act} {w:World} {U:Nat->Prop} {ρ:Nat->Option Value}
theorem Cn.toR{st:St}(h:Cn C st a w U ρ):Et C {tmps:=st.tmps,heap:=st.heap} a w U ρ:=⟨h.tm,h.hp,h.new,sw,h.df,h.r0⟩
theorem Et.out{st:RS}(h:Et C st a w U ρ):Cn C st.out a w U ρ:=⟨h.tm,h.hp,h.new,h.df,h.r0⟩
theorem jK{ops:List Oper}:∀{t:Tr RS}{s:RS},(checked ops t).val=Q1 s->t.val=Q1 s/\vn ops s.log=Q3
 |.err,s,h=>by simp[checked]at h
 | .chk c t,s,h=>by
  cases c
  ·simp[checked,Q8]at h
  ·simp only[checked,Q8,if_true]at h⊢;exact jK h
 | .br c t f,s,h=>by
  cases c
  ·simp only[checked,Q8,zF,if_false]at h⊢;exact jK h
  ·simp only[checked,Q8,if_true]at h⊢;exact jK h
 | .ok st,s,h=>by
  simp only[checked]at h;split at h
  ·simp_all
  ·simp at h
theorem RQ(hE:zt E){id:Nat}{ops:List Oper}{draw:Bool}{s0 sN:RS}(h0:s0.log=[])(hk0:s0.known=[])
  (h:(if draw then checked ops (cG E ops ops s0)else cG E ops ops s0).val=Q1 sN) (hc:Et C s0 a w U ρ) (hW:Wd E.gl C w U):
  (Code.region id ops.toArray draw).wp E.P (λe a' w'=>e=.normal/\∃U' ρ',Et C sN a' w' U' ρ'/\Wd E.gl C w' U') a w:=by
 cases draw
 ·simp only[zF,if_false]at h;refine wp_region ?_;have:=Cu (C:=C) hE (Q:=λe a' w'=>e=.normal/\∃U' ρ',Et C sN a' w' U' ρ'/\Wd E.gl C w' U') (λa' w' U' ρ' h1 h2=>⟨rfl,U',ρ',h1,h2⟩) ops 0 s0 a w U ρ sw h hc hW;rw[<-List.range_eq_range']at this;simpa using this
 ·simp only[if_true]at h;obtain⟨h1,h2⟩:=jK h;exact Lw hE h1 h0 hk0 h2 hc hW
theorem qo{ops:List Oper}{o:Oper}{s s':RS}(h:(ue E ops s o).val=Q1 s')(ht:s'.touched=Q4):s.touched=Q4/\s'.heap=s.heap:=by
 have go:∀kn,(EL E o {s with known:=kn}).val=Q1 s'->s.touched=Q4/\s'.heap=s.heap:=by
  intro kn h;unfold EL at h;split at h
  ·simp only[Tr.val_bind,gm]at h;obtain⟨f,_,h⟩:=h;split at h
   ·simp at h;subst h;simp at ht;obtain⟨h1,h2,h3⟩:=ht;refine⟨h1,?_⟩;simp[h2,h3,nz]
   ·simp at h
  ·simp at h
 have skip:∀kn,mr o {s with known:=kn}=s'->s.touched=Q4/\s'.heap=s.heap:=by
  rintro kn rfl;exact⟨ht,rfl⟩
 unfold ue at h;split at h
 ·exact go s.known h
 ·split at h
  ·simp at h;exact skip s.known h
  ·split at h
   ·split at h
    ·exact go s.known h
    ·simp at h;exact skip s.known h
   ·simp at h;exact skip s.known h
   ·rename_i b _;rename_i want _ _ _ _ _ _;cases b
    ·simp only[Q8,zF,if_false]at h;split at h
     ·simp at h;exact skip _ h
     ·exact go _ h
    ·simp only[Q8,if_true]at h;split at h
     ·exact go _ h
     ·simp at h;exact skip _ h
   ·simp at h
theorem oR{ops:List Oper}:∀(r:List Oper)(s sN:RS),(cG E ops r s).val=Q1 sN->sN.touched=Q4->sN.heap=s.heap
 |[],s,sN,h,_=>by simp[cG]at h;rw[h]
 | o :: r,s,sN,h,ht=>by
  simp only[cG,Tr.val_bind,gm]at h;obtain⟨s1,h1,h2⟩:=h;have e2:=oR r s1 sN h2 ht;have t1:s1.touched=Q4:=by
   have key:∀(r:List Oper)(s sN:RS),(cG E ops r s).val=Q1 sN->sN.touched=Q4->s.touched=Q4:=by
    intro r
    induction r with
    |nil=>intro s sN h ht;simp[cG]at h;rw[h];exact ht
    | cons o r ih=>
     intro s sN h ht;simp only[cG,Tr.val_bind,gm]at h;obtain⟨s1,h1,h2⟩:=h;exact(qo h1 (ih s1 sN h2 ht)).1
   exact key r s1 sN h2 ht
  rw[e2,(qo h1 t1).2]
theorem sG{ops:List Oper}:∀(r:List Oper)(s sN:RS),(cG E ops r s).val=Q1 sN->Xc s->sN.tmps.length=s.tmps.length/\∀d,d∉QI r->sN.tmps.getD d .any=s.tmps.getD d .any
 |[],s,sN,h,_=>by simp[cG]at h;rw[h];exact⟨rfl,λ_ _=>rfl⟩
 | o::r,s,sN,h,hk=>by
  simp only[cG,Tr.val_bind,gm]at h;obtain⟨s1,h1,h2⟩:=h;obtain⟨r0,hd,_,hk1⟩:=D3 h1 hk;obtain⟨e1,e2⟩:=sG r s1 sN h2 hk1;refine⟨by rw[e1,hd.tlen],λd hd'=>?_⟩;rw[e2 d (λhin=>hd' (by simp only[QI,List.filterMap_cons];split<;>simp_all[QI])),hd.slots (λe=>hd' (by simp[QI,e]))]
theorem iJ(c:Bool):∀(ds:List Nat)(pre t f:List AV),(dm c ds pre t f).length=pre.length
 |[],_,_,_=>rfl
 |d::r,pre,t,f=>by rw[dm,iJ c r];simp
theorem oU(c:Bool):∀(ds:List Nat)(pre t f:List AV)(s:Nat),(dm c ds pre t f).getD s .any=if s∈ds/\s<pre.length then(rc c (t.getD s .any) (f.getD s .any)).getD .any else pre.getD s .any
 |[],pre,t,f,s=>by simp[dm]
 | d::r,pre,t,f,s=>by
  rw[dm,oU c r];grind
theorem qR{ds:List Nat}{pre:List AV}:∀{t:Tr RS}{c:Option Bool}{l:List AV},An ds pre t=Q1 (c,l)->(c=Q2\/c=Q1 Q3)->∃sR,t.val=Q1 sR/\sR.touched=Q4/\
  (sR.tmps.length=pre.length->l.length=pre.length)/\∀s v,(s∉ds->sR.tmps.getD s .any=pre.getD s .any)->Rv w U ρ (sR.tmps.getD s .any) v->Rv w U ρ (l.getD s .any) v
 |.err,c,l,h,_=>by simp[An]at h
 | .ok st,c,l,h,_=>by
  simp only[An]at h;simp_all
 | .chk c0 t,c,l,h,hc=>by
  simp only[An]at h;split at h
  ·rename_i l' hl;cases h;have:c0=Q3:=by simpa using hc
   subst this;simp only[Q8,if_true];exact qR hl (.inl rfl)
  ·rename_i c' l' hl;cases h;have:c0=Q3/\c'=Q3:=by simpa using hc
   obtain⟨rfl,rfl⟩:=this;simp only[Q8,if_true];exact qR hl (.inr rfl)
  ·cases h
 | .br b t f,c,l,h,hc=>by
  have key:∀(ct cf:Option Bool)(lt lf:List AV),An ds pre t=Q1 (ct,lt)->An ds pre f=Q1 (cf,lf)->l=dm b ds pre lt lf->(b=Q3->ct=Q2\/ct=Q1 Q3)->(b=Q4->cf=Q2\/cf=Q1 Q3)->
    ∃sR,(br b t f).val=Q1 sR/\sR.touched=Q4/\(sR.tmps.length=pre.length->l.length=pre.length)/\∀s v,(s∉ds->sR.tmps.getD s .any=pre.getD s .any)->Rv w U ρ (sR.tmps.getD s .any) v->Rv w U ρ (l.getD s .any) v:=by
   rintro ct cf lt lf ht hf rfl hb1 hb2
   have fin:∀(sR:RS),(∀s v,(s∉ds->sR.tmps.getD s .any=pre.getD s .any)->Rv w U ρ (sR.tmps.getD s .any) v->Rv w U ρ ((if b then lt else lf).getD s .any) v)->
     ∀s v,(s∉ds->sR.tmps.getD s .any=pre.getD s .any)->Rv w U ρ (sR.tmps.getD s .any) v->Rv w U ρ ((dm b ds pre lt lf).getD s .any) v:=by
    intro sR hs s v hpre hv;rw[oU];split
    ·rename_i hin;have h1:=hs s v hpre hv;cases hmm:rc b (lt.getD s .any) (lf.getD s .any)with
     |none=>exact .any _
     | some z=>
      refine CY hmm ?_;cases b<;>simpa using h1
    ·rename_i hin;by_cases hds:s∈ds
     ·have:¬s<pre.length:=λh=>hin ⟨hds,h⟩
      rw[ba,fy ow];exact .any _
     ·rw[<-hpre hds];exact hv
   cases b
   ·obtain⟨sR,e1,e2,_,e4⟩:=qR hf (hb2 rfl);exact⟨sR,by simpa[Q8]using e1,e2,λ_=>iJ _ _ _ _ _,fin sR (λs v hp hv=>by simpa using e4 s v hp hv)⟩
   ·obtain⟨sR,e1,e2,_,e4⟩:=qR ht (hb1 rfl);exact⟨sR,by simpa[Q8]using e1,e2,λ_=>iJ _ _ _ _ _,fin sR (λs v hp hv=>by simpa using e4 s v hp hv)⟩
  simp only[An]at h;grind
theorem EK(hE:zt E){id:Nat}{ops:Array Oper}{draw:Bool}{st st':St}(h:(tE E ops.toList draw st).val=Q1 st')(hc:Cn C st a w U ρ)(hW:Wd E.gl C w U):
  (Code.region id ops draw).wp E.P (λe a' w'=>e=.normal/\∃U' ρ',Cn C st' a' w' U' ρ'/\Wd E.gl C w' U') a w:=by
 unfold tE at h;simp only at h;generalize hs0:({tmps:=st.tmps,heap:=st.heap}:RS)=s0 at h;have hlog:s0.log=[]:=by rw[<-hs0]
 have hkn:s0.known=[]:=by rw[<-hs0]
 have hcR:Et C s0 a w U ρ:=by rw[<-hs0];exact hc.toR
 have hkA:Xc s0:=by intro d b hl;rw[hkn]at hl;simp at hl
 generalize htree:(if draw then checked ops.toList (cG E ops.toList ops.toList s0)else cG E ops.toList ops.toList s0)=t at h;have plain:∀sN,t.val=Q1 sN->(Code.region id ops draw).wp E.P (λe a' w'=>e=.normal/\∃U' ρ',Et C sN a' w' U' ρ'/\Wd E.gl C w' U') a w:=by
  intro sN hv;have:=RQ (id:=id) hE hlog hkn (by rw[htree];exact hv) hcR hW;simpa using this
 have raw:∀sN,t.val=Q1 sN->(cG E ops.toList ops.toList s0).val=Q1 sN:=by
  intro sN hv;rw[<-htree]at hv;cases draw
  ·simpa using hv
  ·simp only[if_true]at hv;exact(jK hv).1
 have bare:(t.bind λs=>Tr.ok s.out).val=Q1 st'->(Code.region id ops draw).wp E.P (λe a' w'=>e=.normal/\∃U' ρ',Cn C st' a' w' U' ρ'/\Wd E.gl C w' U') a w:=by
  intro h;simp only[Tr.val_bind,gm]at h;obtain⟨sN,hv,h⟩:=h;simp at h;subst h;exact wp_mono (plain sN hv) (λe a' w' ⟨h1,U',ρ',h2,h3⟩=>⟨h1,U',ρ',h2.out,h3⟩)
 have merged:∀c l,An (QI ops.toList) st.tmps t=Q1 (c,l)->(c=Q2\/c=Q1 Q3)->st'={st with tmps:=l}->
   (Code.region id ops draw).wp E.P (λe a' w'=>e=.normal/\∃U' ρ',Cn C st' a' w' U' ρ'/\Wd E.gl C w' U') a w:=by
  rintro c l hfl hcc rfl;obtain⟨sR,hv,ht,hl,_⟩:=qR (w:=w) (U:=U) (ρ:=ρ) hfl hcc;obtain⟨hlen,hsl⟩:=sG ops.toList s0 sR (raw sR hv) hkA;have hheap:=oR ops.toList s0 sR (raw sR hv) ht;refine wp_mono (plain sR hv) (λe a' w' ⟨h1,U',ρ',h2,h3⟩=>⟨h1,U',ρ',⟨⟨?_,λj c v hc' hv'=>?_⟩,?_,?_,h2.df,h2.r0⟩,h3⟩)
  ·have:=h2.tm.len;grind
  ·obtain⟨sR',hv2,_,_,hr⟩:=qR (w:=w') (U:=U') (ρ:=ρ') hfl hcc;rw[hv]at hv2;cases hv2;have hj:j<sR.tmps.length:=by rw[h2.tm.len];exact(dh.1 hv').1
   have e0:s0.tmps=st.tmps:=by rw[<-hs0]
   have:=hr j v (λhd=>by rw[hsl j hd,e0]) (h2.tm.rv j _ v (by simp_all) hv');simp_all
  ·have:sR.hp=({st with tmps:=l}:St).hp:=by
    funext i;simp only[RS.hp,St.hp,hheap,<-hs0]
   rw[<-this];exact h2.hp
  ·have:sR.heap.length=st.heap.length:=by rw[hheap,<-hs0]
   intro i hi;exact h2.new i (by rw[this];exact hi)
 split at h
 ·split at h
  ·simp_all
  ·simp_all
  ·exact bare h
 ·exact bare h
end
end Cad
