/- The abstract machine. -/
import GoSem.Step
import Derived.KernelRfl
import Derived.WalkKit
import Derived.Deep.AppendSrc
import Derived.Laws.IdiomCopy
import Derived.MapKept
import Derived.Laws.StructEq
namespace Cad
open Go
open List renaming length→Io
open Bool renaming false→Q4,true→Q3
open Option renaming none→Q2,some→Q1
open Decidable renaming decide→Q0
variable {α β:Type}
abbrev _root_.Prod.q{B:Type}(x:α×β×B):B:=x.2.2
abbrev _root_.Prod.t{B δ ε:Type}(x:α×β×B×δ×ε):ε:=x.2.2.2.2
theorem _root_.And.q{a b D:Prop}(h:a/\b/\D):D:=h.2.2
theorem _root_.And.t{a b c d e:Prop}(h:a/\b/\c/\d/\e):e:=h.2.2.2.2
variable {p:Prop}
theorem ow(h:p:=by omega):p:=h
theorem sw(h:p:=by simp):p:=h
theorem sg(h:p:=by simp;omega):p:=h
theorem kw(h:p:=by kernel_rfl):p:=h
theorem EB(h:p:=by rfl):p:=h
abbrev bl0:List UInt8:=[100,101,108,101,116,101]
abbrev bl1:List UInt8:=[100,114,111,112]
abbrev mU:List UInt8:=[103,114,111,117,112]
abbrev bl3:List UInt8:=[105,110,115,101,114,116]
abbrev gm:List UInt8:=[106,111,105,110]
abbrev ou:List UInt8:=[108,105,116]
abbrev ni:List UInt8:=[110,111,116]
abbrev po:List UInt8:=[110,117,108,108]
abbrev uD:List UInt8:=[111,114]
abbrev bl9:List UInt8:=[114,101,97,100]
abbrev Ig:List UInt8:=[115,101,108,101,99,116]
abbrev N8:List UInt8:=[117,110,114,101,97,100]
abbrev N9:List UInt8:=[117,110,119,114,105,116,101]
abbrev K2:List UInt8:=[117,112,100,97,116,101]
abbrev Oa:List UInt8:=[119,114,105,116,101]
abbrev AH:List UInt8:=[32,40,32]
abbrev zjE:List UInt8:=[32,41,32]
abbrev iE:List UInt8:=[32,41]
abbrev zxY:List UInt8:=[32,44,32,75,69,89,32,40,32]
abbrev zjF:List UInt8:=[32,44,32,82,69,70,69,82,69,78,67,69,83,32,40,32]
abbrev zjG:List UInt8:=[32,44,32,85,78,73,81,85,69,32,40,32]
abbrev fi:List UInt8:=[32,44,32]
abbrev zjH:List UInt8:=[32,61,32]
abbrev Ob:List UInt8:=[32,65,78,68,32]
abbrev Th:List UInt8:=[32,66,89,32]
abbrev zcb:List UInt8:=[32,67,72,69,67,75,32,40,32]
abbrev lq:List UInt8:=[32,70,82,79,77,32]
abbrev Cc:List UInt8:=[32,73,83,32,78,85,76,76,41]
abbrev zjI:List UInt8:=[32,78,79,84,32,78,85,76,76]
abbrev AI:List UInt8:=[32,79,78,32]
abbrev Oc:List UInt8:=[32,79,82,32]
abbrev zcc:List UInt8:=[32,83,69,84,32]
abbrev Ti:List UInt8:=[32,83,85,77,32]
abbrev Od:List UInt8:=[32,84,79,32]
abbrev zcd:List UInt8:=[32,86,65,76,85,69,83,32,40,32]
abbrev zce:List UInt8:=[32,87,72,69,82,69,32]
abbrev ot:List UInt8:=[39,39]
abbrev zjJ:List UInt8:=[40,41,44,61,60,43,45,42]
abbrev uB:List UInt8:=[40,78,79,84,32]
abbrev VP:List UInt8:=[65,78,68]
abbrev Cd:List UInt8:=[66,79,79,76]
abbrev Fr:List UInt8:=[66,89]
abbrev K4:List UInt8:=[67,72,69,67,75,32,40,32]
abbrev iv:List UInt8:=[67,72,69,67,75]
abbrev Tj:List UInt8:=[67,79,80,89]
abbrev zcf:List UInt8:=[67,82,69,65,84,69,32,84,65,66,76,69,32]
abbrev zcg:List UInt8:=[67,82,69,65,84,69]
abbrev zch:List UInt8:=[68,69,76,69,84,69,32,70,82,79,77,32]
abbrev zci:List UInt8:=[68,69,76,69,84,69]
abbrev zcj:List UInt8:=[68,82,79,80,32,84,65,66,76,69,32]
abbrev zck:List UInt8:=[68,82,79,80]
abbrev Ih:List UInt8:=[70,65,76,83,69]
abbrev uC:List UInt8:=[70,82,79,77]
abbrev zpI:List UInt8:=[71,82,65,78,84,32,82,69,65,68,32,79,78,32]
abbrev zpJ:List UInt8:=[71,82,65,78,84,32,87,82,73,84,69,32,79,78,32]
abbrev zjK:List UInt8:=[71,82,65,78,84,32]
abbrev zcl:List UInt8:=[71,82,65,78,84]
abbrev Tk:List UInt8:=[71,82,79,85,80]
abbrev VQ:List UInt8:=[73,78,83,69,82,84,32,73,78,84,79,32]
abbrev zcm:List UInt8:=[73,78,83,69,82,84]
abbrev zcn:List UInt8:=[73,78,84,79]
abbrev Ce:List UInt8:=[73,78,84]
abbrev Tl:List UInt8:=[74,79,73,78]
abbrev zjL:List UInt8:=[75,69,89,32,40,32]
abbrev VR:List UInt8:=[77,73,71,82,65,84,69,32,67,79,80,89,32]
abbrev zjM:List UInt8:=[77,73,71,82,65,84,69,32,71,82,79,85,80,32]
abbrev zjN:List UInt8:=[77,73,71,82,65,84,69,32,74,79,73,78,32]
abbrev VS:List UInt8:=[77,73,71,82,65,84,69,32]
abbrev zco:List UInt8:=[77,73,71,82,65,84,69]
abbrev Fs:List UInt8:=[78,85,76,76]
abbrev Ft:List UInt8:=[79,78]
abbrev Tm:List UInt8:=[82,69,65,68]
abbrev zpK:List UInt8:=[82,69,70,69,82,69,78,67,69,83]
abbrev zpL:List UInt8:=[82,69,86,79,75,69,32,82,69,65,68,32,79,78,32]
abbrev zpM:List UInt8:=[82,69,86,79,75,69,32,87,82,73,84,69,32,79,78,32]
abbrev zjO:List UInt8:=[82,69,86,79,75,69,32]
abbrev zcp:List UInt8:=[82,69,86,79,75,69]
abbrev zcq:List UInt8:=[83,69,76,69,67,84,32,42,32,70,82,79,77,32]
abbrev zcr:List UInt8:=[83,69,76,69,67,84]
abbrev Fu:List UInt8:=[83,85,77]
abbrev zcs:List UInt8:=[84,65,66,76,69]
abbrev Cf:List UInt8:=[84,69,88,84]
abbrev Ii:List UInt8:=[84,82,85,69]
abbrev VT:List UInt8:=[85,80,68,65,84,69,32]
abbrev zct:List UInt8:=[85,80,68,65,84,69]
abbrev zcu:List UInt8:=[86,65,76,85,69,83]
abbrev md:List UInt8:=[87,72,69,82,69]
abbrev iw:List UInt8:=[97,110,100]
abbrev eL:List UInt8:=[99,111,108]
abbrev dm:List UInt8:=[99,111,112,121]
abbrev Oe:List UInt8:=[99,114,101,97,116,101]
abbrev zH:=List UInt8
abbrev AG:=@List.eq_nil_of_length_eq_zero
abbrev pC:=@Array.getD_eq_getD_getElem?
abbrev mc:=@Array.getElem?_eq_some_iff
abbrev aY:=@List.getD_eq_getElem?_getD
abbrev jg:=@List.getElem?_append_right
abbrev pD:=@Array.getElem?_eq_getElem
abbrev th:=@Classical.byContradiction
abbrev fR:=@List.drop_eq_getElem_cons
abbrev kG:=@List.getElem?_append_left
abbrev dc:=@List.getElem?_eq_some_iff
abbrev QF:=@List.mem_or_eq_of_mem_set
abbrev zQ:=@Bool.eq_false_or_eq_true
abbrev z6:=@List.getElem?_eq_getElem
abbrev fO:=@Option.bind_eq_some_iff
abbrev BV:=@List.drop_eq_nil_of_le
abbrev QG:=@List.take_of_length_le
abbrev gD:=@MapKept.run_getObj_map
abbrev mZ:=@MapKept.run_setObj_map
abbrev dt:=@Option.map_eq_some_iff
abbrev yI:=@World.frozen?_of_block
abbrev pP:=@Array.getElem?_modify
abbrev pl:=@Array.getElem?_toList
abbrev FZ:=@List.contains_iff_mem
abbrev eZ:=@List.getElem?_eq_none
abbrev QH:=@List.getElem?_toArray
abbrev QI:=@Array.toArray_toList
abbrev BW:=@List.getElem?_set_ne
abbrev jN:=@List.mem_cons_of_mem
abbrev fF:=@List.mem_of_getElem?
abbrev KT:=@MapKept.run_checkKey
abbrev gE:=@Nat.mul_le_mul_right
abbrev F0:=@Nat.pow_le_pow_right
abbrev BX:=@List.getD_cons_succ
abbrev uu:=@List.getElem?_range
abbrev fP:=@List.getElem_of_mem
abbrev KU:=@MapKept.run_findKey
abbrev dB:=@beq_eq_false_iff_ne
abbrev zE:=@Bool.false_eq_true
abbrev BY:=@List.getElem?_drop
abbrev ik:=@List.length_append
abbrev ln:=@List.mem_cons_self
abbrev dU:=@List.mem_singleton
abbrev gF:=@Nat.lt_of_lt_of_le
abbrev fG:=@Option.isSome_some
abbrev yJ:=@Bool.not_eq_true'
abbrev uv:=@Function.comp_def
abbrev BZ:=@Int.lt_trichotomy
abbrev aJ:=@Int.toNat_natCast
abbrev B1:=@List.append_assoc
abbrev pm:=@List.ext_getElem?
abbrev du:=@List.getElem?_map
abbrev na:=@List.getElem?_set
abbrev yK:=@Nat.succ_le_of_lt
abbrev bg:=@Option.some.injEq
abbrev nc:=@Result.andThen_ok
abbrev jc:=@bne_self_eq_false
abbrev aQ:=@decide_eq_true_eq
abbrev mi:=@of_decide_eq_true
abbrev aE:=@Bool.and_eq_true
abbrev gT:=@Bool.not_eq_true
abbrev dP:=@IntKind.wrap_i64
abbrev dQ:=@List.all_eq_true
abbrev jO:=@List.drop_length
abbrev bp:=@List.getElem_mem
abbrev eJ:=@List.length_cons
abbrev B2:=@List.length_take
abbrev KV:=@List.mem_flatMap
abbrev fQ:=@List.take_length
abbrev nf:=@MapKept.heap_set
abbrev bT:=@Option.getD_some
abbrev gU:=@Bool.eq_iff_iff
abbrev ng:=@Bool.or_eq_true
abbrev pQ:=@Int.natCast_add
abbrev pR:=@List.append_nil
abbrev yL:=@List.cons.injEq
abbrev cQ:=@List.length_map
abbrev pn:=@List.length_nil
abbrev yM:=@List.length_set
abbrev eC:=@List.map_append
abbrev cz:=@List.mem_append
abbrev F1:=@List.nil_append
abbrev B3:=@Option.map_some
abbrev z7:=@decide_eq_false
abbrev di:=@Bool.not_false
abbrev lp:=@Comes.of_steps
abbrev F2:=@List.drop_drop
abbrev pS:=@List.mem_range
abbrev F3:=@Nat.mul_le_mul
abbrev zy:=@decide_eq_true
abbrev bA:=@run_underlying
abbrev pT:=@Bool.and_self
abbrev yN:=@Bool.false_or
abbrev cm:=@Bool.not_true
abbrev ee:=@Bool.true_and
abbrev dC:=@List.map_cons
abbrev b8:=@List.mem_cons
abbrev cd:=@Prod.mk.injEq
abbrev nh:=@List.map_map
abbrev pU:=@List.map_nil
abbrev bh:=@List.mem_map
abbrev kf:=@Nat.add_comm
abbrev pM:=@Nat.add_zero
abbrev aT:=@Nat.le_trans
abbrev pN:=@Nat.pow_succ
abbrev hV:=@Nat.succ_mul
abbrev ew:=@Nat.zero_add
abbrev cP:=@Sem.run_bind
abbrev pO:=@Sem.run_pure
abbrev oo:=@Nat.add_mul
abbrev ah:=@Nat.le_refl
abbrev aM:=@Nat.zero_le
abbrev kg:=@Array.ext'
abbrev bd:=@beq_iff_eq
abbrev ax:=@cond_false
abbrev aw:=@cond_true
abbrev bF:=@eq_of_beq
abbrev ze:=@if_pos
abbrev zg:=@if_neg
abbrev zh:=@if_true
abbrev zm:=@if_false
abbrev aX:=@Prod.eta
abbrev dZ:=@decide_eq_false_iff_not
abbrev zC:=@absurd
inductive za where
 |mk (op:zH) (v:Int×Int×zH) (s:zH) (l:List za)
def za.op:za->zH
 |.mk o _ _ _=>o
def za.v:za->Int×Int×zH
 |.mk _ v _ _=>v
def za.s:za->zH
 |.mk _ _ s _=>s
def za.l:za->List za
 |.mk _ _ _ l=>l
inductive Sh where
 |unit
 |bool
 |int (k:IntKind)
 |str
 |sl (e:Sh)
 |pr (a b:Sh)
 |expr
 deriving DecidableEq
@[reducible] def Sem:Sh->Type
 |.unit=>Unit
 |.bool=>Bool
 |.int _=>Int
 |.str=>zH
 |.sl e=>List (Sem e)
 |.pr a b=>Sem a×Sem b
 |.expr=>za
def zi:(s:Sh)->Sem s
 |.unit=>()
 |.bool=>Q4
 |.int _=>(0:Int)
 |.str=>([]:zH)
 |.sl e=>([]:List (Sem e))
 |.pr a b=>(zi a,zi b)
 |.expr=>za.mk [] (0,0,[]) [] []
def Sh.size:Sh->Nat
 |.unit=>0
 |.pr a b=>a.size+b.size
 |.expr=>6
 |_=>1
inductive AV where
 |any
 |kb (b:Bool)
 |bool (b:Bool)
 |int (k:IntKind) (n:Int)
 |str (s:zH)
 |nils
 |sl (e:Sh) (l:List (Sem e))
 |vec (id:Nat)
 |ptr (id off:Nat)
 |vptr (id sz i off:Nat)
 |eptr (cells:List AV) (off:Nat)
 |nilp
 |agg (cells:List AV)
 |tup (vs:List AV)
 |clo (fn:Fn) (first caps:List AV)
 |nilf
 |mp (id:Nat)
 |ifc (bu:Bool)
 |tab (k:IntKind) (zs:List Int)
 |gint
abbrev ai(n:Int):AV:=.int .i64 n
abbrev ny:AV:=.any
def zz:(s:Sh)->Sem s->List AV
 |.unit,_=>[]
 |.bool,b=>[.bool b]
 |.int k,n=>[.int k n]
 |.str,s=>[.str s]
 |.sl e,l=>[.sl e l]
 |.pr a b,x=>zz a x.1++zz b x.2
 |.expr,e=>[.str e.op,.int .i64 e.v.1,.int .i64 e.v.2.1,.str e.v.2.2,.str e.s,.sl .expr e.l]
inductive AO where
 |dead
 |box (cells:List AV)
 |vec (e:Sh) (l:List (Sem e))
 |frz (e:Sh) (l:List (Sem e))
 |fmap (es:List (zH×AV))
 |vmap (u:Bool) (es:List ((Int×Int×zH)×Int))
 |gmap (e:Sh) (es:List ((Int×Int×zH)×List (Sem e)))
inductive Tr (α:Type) where
 |err
 |chk (c:Bool) (t:Tr α)
 |br (c:Bool) (t f:Tr α)
 |ok (a:α)
def Tr.val:Tr α->Option α
 |.err=>Q2
 |.chk c t=>if c then t.val else Q2
 |.br c t f=>if c then t.val else f.val
 |.ok a=>Q1 a
def Tr.bind:Tr α->(α->Tr β)->Tr β
 |.err,_=>.err
 |.chk c t,k=>.chk c (t.bind k)
 |.br c t f,k=>.br c (t.bind k) (f.bind k)
 |.ok a,k=>k a
structure fM where
 val:AV
 wr:List (Nat×AO):=[]
 nw:List AO:=[]
abbrev z8:=List AV->(Nat->AO)->Nat->Tr fM
structure cg where
 P:Program
 sh:TypeId->Option Sh
 gl:Nat->AV
 F:FuncId->Option z8
 own:Bool:=Q4
structure St where
 tmps:List AV
 heap:List AO
def St.hp(s:St)(id:Nat):AO:=s.heap.getD id .dead
def tj(a:Nat->AO)(e:Sh):AV->Option (List (Sem e))
 |.nils=>Q1 []
 |.sl x l=>if h:x=e then Q1 (h▸l)else Q2
 | .vec id=>match a id with
  |.vec x l=>if h:x=e then Q1 (h▸l)else Q2
  |.frz x l=>if h:x=e then Q1 (h▸l)else Q2
  |_=>Q2
 |_=>Q2
def vj(h:Nat->AO):List AV->Option (za×List AV)
 | .str o::.int .i64 k::.int .i64 i::.str vs::.str s::c::r=>match tj h .expr c with
  |some l=>Q1 (za.mk o (k,i,vs) s l,r)
  |none=>Q2
 |_=>Q2
def dh(d:Nat->AO):(s:Sh)->List AV->Option (Sem s×List AV)
 |.unit,h=>Q1 ((),h)
 |.bool,.bool b::r=>Q1 (b,r)
 |.bool,.kb b::r=>Q1 (b,r)
 |.int k,.int g n::r=>if g=k then Q1 (n,r)else Q2
 |.str,.str s::r=>Q1 (s,r)
 | .sl e,c::r=>match tj d e c with
  |some l=>Q1 (l,r)
  |none=>Q2
 | .pr a b,h=>match dh d a h with
  | some (x,r)=>match dh d b r with
   |some (y,i)=>Q1 ((x,y),i)
   |none=>Q2
  |none=>Q2
 |.expr,h=>vj d h
 |_,_=>Q2
def cellsOf:AV->Option (List AV)
 |.any=>Q2
 |.tup _=>Q2
 |.agg c=>Q1 c
 |v=>Q1 [v]
def Sh.isAgg:Sh->Bool
 |.pr _ _|.expr|.unit=>Q3
 |_=>Q4
def AV.isAgg:AV->Bool
 |.agg _=>Q3
 |_=>Q4
def yO(hp:Nat->AO)(s:Sh)(v:AV):Option (Sem s):=
 if s.isAgg==v.isAgg then match cellsOf v with
  | some c=>match dh hp s c with
   |some (x,[])=>Q1 x
   |_=>Q2
  |none=>Q2
 else Q2
def zL(s:Sh)(x:Sem s):AV:=
 match s.isAgg with
 |true=>.agg (zz s x)
 |false=>(zz s x).headD .any
def O5(k:IntKind)(n:Int):Bool:=match k with
 |.i8=>Q0 (-128<=n)&&Q0 (n<=127)
 |.i16=>Q0 (-32768<=n)&&Q0 (n<=32767)
 |.i32=>Q0 (-2147483648<=n)&&Q0 (n<=2147483647)
 |.i64=>Q0 (-9223372036854775808<=n)&&Q0 (n<=9223372036854775807)
 |.u8=>Q0 (0<=n)&&Q0 (n<=255)
 |.u16=>Q0 (0<=n)&&Q0 (n<=65535)
 |.u32=>Q0 (0<=n)&&Q0 (n<=4294967295)
 |.u64=>Q0 (0<=n)&&Q0 (n<=18446744073709551615)
def H6:Value->AV
 |.bool b=>.kb b
 |.int k n=>if O5 k n then .int k n else .any
 |.string s=>if s.data.toList.length<=1000000 then .str s.data.toList else .any
 |.slice Q2 0 0=>.nils
 |.pointer Q2=>.nilp
 |.nilFunc=>.nilf
 |.nilIface=>.ifc Q3
 |_=>.any
def ztm:Value->Bool
 |.agg _|.tuple _=>Q4
 |_=>Q3
def wO:Value->AV
 |.agg c=>if c.toList.all ztm then .agg (c.toList.map H6)else .any
 |v=>H6 v
def rG(c:Bool):AV->AV->Option AV
 |.bool a,.bool b=>Q1 (.bool (cond c a b))
 |.bool a,.kb b=>Q1 (.bool (cond c a b))
 |.kb a,.bool b=>Q1 (.bool (cond c a b))
 |.kb a,.kb b=>Q1 (.bool (cond c a b))
 |.int k a,.int h b=>if k=h then Q1 (.int k (cond c a b))else Q2
 |.str a,.str b=>Q1 (.str (cond c a b))
 |_,_=>Q2
def gh(P:Program)(t:TypeId):Option Nat:=(P.info? t).map (·.size)
def td(P:Program)(t:TypeId):Option AV:=match P.info? t with
 |some i=>i.zero.map wO
 |none=>Q2
def E7(P:Program)(t:TypeId):Option Bool:=match P.underlying t with
 |some (.struct _)|some (.array _ _)=>Q1 Q3
 |some _=>Q1 Q4
 |none=>Q2
def zas(P:Program)(t:TypeId):Option (List AV):=match P.info? t with
 | some i=>match i.zero with
  |some (.map Q2)=>Q1 [.any]
  |some z=>cellsOf (wO z)
  |none=>Q2
 |none=>Q2
def sV(P:Program)(t:TypeId)(c:List AV)(o:Nat):Option AV:=
 match E7 P t,gh P t with
 |some Q3,Q1 n=>if o+n<=Io c then Q1 (.agg ((c.drop o).take n))else Q2
 |some Q4,_=>c[o]?
 |_,_=>Q2
def setCells(c:List AV)(o:Nat):List AV->List AV
 |[]=>c
 |v::r=>setCells (c.set o v) (o+1) r
def ret(v:AV):Tr fM:=.ok {val:=v}
def FD:Option AV->Tr fM
 |some v=>ret v
 |none=>.err
def A3(P:Program)(t:TypeId)(f:Nat):Option Field:=match P.underlying t with
 |some (.struct h)=>h[f]?
 |_=>Q2
def zK(n:Int)(l:Nat):Bool:=Q0 (0<=n)&&Q0 (n<l)
def cW:AV->List Nat
 |.vec id=>[id]
 |_=>[]
def Df:AO->AO
 |.vec e l=>.frz e l
 |o=>o
def oK:AO->Bool
 |.vec _ _|.frz _ _=>Q3
 |_=>Q4
def gN(h:Nat->AO)(i:List Nat):List (Nat×AO):=i.map λid=>(id,Df (h id))
def eqT(P:Program)(t:TypeId)(x y:AV):Option Bool:=
 match P.underlying t,x,y with
 |some (.int _),.int k a,.int h b=>if k=h then Q1 (a==b)else Q2
 |some .string,.str a,.str b=>Q1 (a==b)
 |some .bool,.bool a,.bool b=>Q1 (a==b)
 |some .bool,.bool a,.kb b=>Q1 (a==b)
 |some .bool,.kb a,.bool b=>Q1 (a==b)
 |some .bool,.kb a,.kb b=>Q1 (a==b)
 |_,_,_=>Q2
def Fv(P:Program):List Field->Nat->List AV->List AV->Option Bool
 |[],_,[],[]=>Q1 Q3
 | f::fs,i,a::xs,b::ys=>if f.name != "_" && f.offset==i then match eqT P f.type a b,Fv P fs (i+1) xs ys with
   |some r,Q1 s=>Q1 (r&&s)
   |_,_=>Q2
  else Q2
 |_,_,_,_=>Q2
def eqA(P:Program)(t:TypeId)(x y:AV):Option Bool:=
 match x,y with
 | .agg a,.agg b=>match P.underlying t with
  |some (.struct h)=>if !P.stoodInHeld t&&!P.eqGuardType P.depth t then Fv P h.toList 0 a b else Q2
  |_=>Q2
 |x,y=>eqT P t x y
def zjC(o:BinOp)(k:IntKind)(a b:Int):Tr fM:=
 match o with
 |.add=>ret (.int k (k.wrap (a+b)))
 |.sub=>ret (.int k (k.wrap (a-b)))
 |.mul=>ret (.int k (k.wrap (a*b)))
 |.quo=>.chk (b !=0) (ret (.int k (k.wrap (a.tdiv b))))
 |.rem=>.chk (b !=0) (ret (.int k (k.wrap (a.tmod b))))
 |.shr=>.chk (b==1) (ret (.int k (a/2)))
 |.and=>ret (.int k (k.wrap (BitVec.ofInt k.bits a &&& BitVec.ofInt k.bits b).toNat))
 |.eql=>ret (.bool (a==b))
 |.neq=>ret (.bool (a !=b))
 |.lss=>ret (.bool (Q0 (a<b)))
 |.leq=>ret (.bool (Q0 (a<=b)))
 |.gtr=>ret (.bool (Q0 (a>b)))
 |.geq=>ret (.bool (Q0 (a>=b)))
 |_=>.err
def zjD(o:BinOp)(a b:zH):Tr fM:=
 match o with
 |.add=>.chk (Q0 (Io a+Io b<=1099511627776)) (ret (.str (a++b)))
 |.eql=>ret (.bool (a==b))
 |.neq=>ret (.bool (!(a==b)))
 |.lss=>ret (.bool (Op.bytesLess a b))
 |.leq=>ret (.bool (Op.bytesLess a b||a==b))
 |.gtr=>ret (.bool (!(Op.bytesLess a b||a==b)))
 |.geq=>ret (.bool (!Op.bytesLess a b))
 |_=>.err
def zjB(P:Program)(o:BinOp)(t:TypeId)(x y:AV):Tr fM:=
 match o with
 | .eql=>match eqA P t x y with
  |some r=>ret (.bool r)
  |none=>.err
 | .neq=>match eqA P t x y with
  |some r=>ret (.bool (!r))
  |none=>.err
 |_=>.err
def zmd(o:BinOp)(k:IntKind)(a b:Int):Tr fM:=
 match o with
 |.shr=>.chk (Q0 (0<=b)) (ret (.int k (a.fdiv (2^min b.toNat k.bits))))
 |_=>.err
def zjA(P:Program)(o:BinOp)(t:TypeId)(x y:AV):Tr fM:=
 match x,y with
 |.int k a,.int h b=>if k=h then zjC o k a b else zmd o k a b
 |.str a,.str b=>zjD o a b
 |x,y=>zjB P o t x y
def GX(p:Nat->Option (Nat×Nat))(c:List AV):List (Nat×AV)->Option (List AV)
 |[]=>Q1 c
 | (i,v)::rest=>match p i,cellsOf v with
  |some (o,s),Q1 h=>if Io h=s/\o+Io h<=Io c then GX p (setCells c o h) rest else Q2
  |_,_=>Q2
def vC(P:Program):List Field->Option (List (Nat×Nat))
 |[]=>Q1 []
 | f::r=>match gh P f.type,vC P r with
  |some n,Q1 l=>Q1 ((f.offset,n)::l)
  |_,_=>Q2
def Of(P:Program)(t:TypeId)(p:List (Nat×AV)):Option AV:=
 match td P t,P.underlying t with
 | some (.agg z),Q1 (.struct h)=>
  match vC P h.toList with
  |some x=>(GX (λi=>x[i]?) z p).map .agg
  |none=>Q2
 | some (.agg z),Q1 (.array _ e)=>match gh P e with
  |some n=>(GX (λi=>Q1 (i*n,n)) z p).map .agg
  |none=>Q2
 |_,_=>Q2
def wW(hp:Nat->AO)(e:Sh):List AV->Option (List (Sem e))
 |[]=>Q1 []
 | v::r=>match yO hp e v,wW hp e r with
  |some x,Q1 l=>Q1 (x::l)
  |_,_=>Q2
def vl:Nat->List (Nat×AV)->Bool
 |_,[]=>Q3
 |n,(i,_)::r=>i==n&&vl (n+1) r
def IE(P:Program)(h:Nat->AO)(t:TypeId):AV->Tr fM
 | .ptr id o=>match h id with
  |.box c=>FD (sV P t c o)
  |_=>.err
 |.eptr c o=>FD (sV P t c o)
 | .vptr id sz i o=>match h id with
  |.vec e l=>if e.size=sz then .chk (Q0 (i<Io l)) (FD (sV P t (zz e (l.getD i (zi e))) o))else .err
  |_=>.err
 |_=>.err
def IF(P:Program)(h:Nat->AO)(t:TypeId)(a x:AV):Tr fM:=
 match cellsOf x,gh P t with
 | some v,Q1 sz=>if Io v=sz then match a with
   | .ptr id off=>match h id with
    |.box c=>if off+sz<=Io c then .ok {val:=.tup [],wr:=[(id,.box (setCells c off v))]}else .err
    |_=>.err
   | .vptr id sz' i off=>match h id with
    | .vec e l=>if e.size=sz'∧off+sz≤sz'∧(v.flatMap cW).all (fun j=>oK (h j)&&j != id) then match dh h e (setCells (zz e (l.getD i (zi e))) off v) with
      |some (x,[])=>.chk (Q0 (i<Io l)) (.ok {val:=.tup [],wr:=(id,.vec e (l.set i x))::gN h (v.flatMap cW)})
      |_=>.err
     else .err
    |_=>.err
   |_=>.err
  else .err
 |_,_=>.err
def IC(P:Program)(t:TypeId)(f:Nat)(x:AV):Tr fM:=
 match A3 P t f with
 | some h=>match gh P h.type with
  | some (_+1)=>match x with
   |.ptr id o=>ret (.ptr id (o+h.offset))
   |.eptr c o=>ret (.eptr c (o+h.offset))
   |.vptr id sz i o=>ret (.vptr id sz i (o+h.offset))
   |_=>.err
  |_=>.err
 |none=>.err
def Tf(k:Int)(f:Nat->AV):Nat->Nat->Tr fM
 |_,0=>.err
 |i,1=>ret (f i)
 |i,n+2=>.br (k==(i:Int)) (ret (f i)) (Tf k f (i+1) (n+1))
def qb(P:Program)(b:Nat->AO)(t:TypeId)(x i:AV):Tr fM:=
 match i with
 | .int _ k=>match P.underlying t with
  | some (.slice h)=>match x with
   |.sl e l=>if gh P h=Q1 e.size then .chk (zK k (Io l)) (ret (.eptr (zz e (l.getD k.toNat (zi e))) 0))else .err
   | .vec id=>match b id with
    |.vec e l=>if gh P h=Q1 e.size then .chk (zK k (Io l)) (ret (.vptr id e.size k.toNat 0))else .err
    |.frz e l=>if gh P h=Q1 e.size then .chk (zK k (Io l)) (ret (.eptr (zz e (l.getD k.toNat (zi e))) 0))else .err
    |_=>.err
   |_=>.err
  | some (.array a h)=>match gh P h with
   | some sz=>match x with
    |.ptr id o=>.chk (zK k a) (ret (.ptr id (o+k.toNat*sz)))
    |.eptr c o=>.chk (zK k a) (Tf k (λi=>.eptr c (o+i*sz)) 0 a)
    |_=>.err
   |none=>.err
  |_=>.err
 |_=>.err
def ID(P:Program)(t:TypeId)(x i:AV):Tr fM:=
 match i with
 | .int _ k=>match P.underlying t,x with
  |some .string,.str s=>.chk (zK k (Io s)) (ret (.int .u8 (s.getD k.toNat 0).toNat))
  | some (.array l e),.agg c=>match gh P e with
   | some sz=>match sV P e c (k.toNat * sz) with
    |some v=>.chk (zK k l) (ret v)
    |none=>.err
   |none=>.err
  |_,_=>.err
 |_=>.err
def ea(v:AV):List Nat:=match cellsOf v with
 |some c=>c.flatMap cW
 |none=>[]
def oC(E:cg)(b:Nat->AO)(t:TypeId)(x:Nat)(a:List (Nat×AV)):Tr fM:=
 match E.P.underlying t with
 | some (.slice h)=>match x with
  |0=>if a.isEmpty&&(gh E.P h).isSome then ret .nils else .err
  | _=>match E.sh h with
   | some e=>
    if Io a=x&&vl 0 a&&Q0 (x*e.size<=100000)&&(a.flatMap λp=>ea p.2).all (λj=>oK (b j))then match wW b e (a.map (·.2))with
     |some l=>.ok {val:=.sl e l,wr:=gN b (a.flatMap λp=>ea p.2)}
     |none=>.err
    else .err
   |none=>.err
 |_=>.err
def tH(E:cg)(b:Nat->AO)(n:Nat)(t:TypeId)(h:Nat)(a:List (Nat×AV)):Tr fM:=
 match E.P.underlying t with
 | some (.slice x)=>match E.sh x with
  | some e=>
   if Io a=h&&vl 0 a&&Q0 (0<h)&&Q0 (h*e.size<=100000)&&(a.flatMap λp=>ea p.2).isEmpty then match wW b e (a.map (·.2))with
    |some l=>.ok {val:=.vec n,nw:=[.vec e l]}
    |none=>.err
   else .err
  |none=>.err
 |_=>.err
def pW:AV->Option Int
 |.int _ k=>Q1 k
 |_=>Q2
def uV(P:Program)(t:TypeId)(x:AV)(d c m:Option AV):Tr fM:=
 match P.underlying t,x,m with
 | some .string,.str s,Q2=>
  match(match d with|none=>Q1 0|some a=>pW a),(match c with|none=>Q1 (Io s:Int)|some a=>pW a)with
  |some l,Q1 h=>.chk (Q0 (0<=l)&&Q0 (l<=h)&&Q0 (h<=Io s)) (ret (.str ((s.drop l.toNat).take (h.toNat-l.toNat))))
  |_,_=>.err
 | some (.slice b),.sl e s,Q2=>if gh P b=Q1 e.size then
   match(match d with|none=>Q1 0|some a=>pW a),(match c with|none=>Q1 (Io s:Int)|some a=>pW a)with
   |some l,Q1 h=>.chk (Q0 (0<=l)&&Q0 (l<=h)&&Q0 (h<=Io s)) (ret (.sl e ((s.drop l.toNat).take (h.toNat-l.toNat))))
   |_,_=>.err
  else .err
 | some (.slice b),.sl _ _,Q1 (.int _ 0)=>match d,c with
  |none,Q1 (.int _ 0)=>if(gh P b).isSome then ret .nils else .err
  |_,_=>.err
 | some (.slice b),.nils,Q1 (.int _ 0)=>match d,c with
  |none,Q1 (.int _ 0)=>if(gh P b).isSome then ret .nils else .err
  |_,_=>.err
 |_,_,_=>.err
def C3(P:Program)(hp:Nat->AO)(t:TypeId)(x:AV)(a h m:Option AV):Tr fM:=
 match x with
 | .vec id=>match hp id with
  |.vec e l=>(uV P t (.sl e l) a h m).bind λf=>.ok {val:=f.val,wr:=gN hp [id]}
  |.frz e l=>uV P t (.sl e l) a h m
  |_=>.err
 |x=>uV P t x a h m
def WW(P:Program)(h:Nat->AO)(t:TypeId)(x:AV):Tr fM:=
 match P.underlying t with
 | some .string=>match x with
  |.str s=>ret (.int .i64 (Io s))
  |_=>.err
 | some (.slice _)=>match x with
  |.nils=>ret (.int .i64 0)
  |.sl _ l=>ret (.int .i64 (Io l))
  | .vec id=>match h id with
   |.vec _ l=>ret (.int .i64 (Io l))
   |.frz _ l=>ret (.int .i64 (Io l))
   |_=>.err
  |_=>.err
 | some (.map _ _)=>match x with
  | .mp id=>match h id with
   |.vmap _ e=>.chk (Q0 (Io e<=1073741824)) (ret (.int .i64 (Io e)))
   |_=>.err
  |_=>.err
 |_=>.err
def nu(E:cg)(c:Nat->AO)(n:Nat)(a:TypeId)(b x:AV):Tr fM:=
 match E.sh a,b with
 | some e,.nils=>match tj c e x with
  |some l=>.chk (Q0 (Io l<=1073741824)) (.ok {val:=.vec n,nw:=[.vec e l]})
  |none=>.err
 | some e,.vec id=>match c id with
  | .vec i g=>if h:i=e then match tj c e x with
    |some d=>.chk (Q0 (Io g+Io d<=1073741824)) (.ok {val:=.vec n,wr:=[(id,.dead)],nw:=[.vec e ((h▸g:List (Sem e))++d)]})
    |none=>.err
   else .err
  |_=>.err
 |_,_=>.err
def RJ(e:List (zH×AV))(s:zH)(z:Tr fM):Tr fM:=match e with
 |[]=>z
 |(k,v)::r=>.br (s==k) (ret v) (RJ r s z)
def IV(e:List (zH×AV))(s:zH)(z:Tr fM):Tr fM:=match e with
 |[]=>z
 |(k,v)::r=>.br (s==k) (ret (.tup [v,.kb Q3])) (IV r s z)
def Qq:AV->Option (Int×Int×zH)
 |.agg [.int .i64 a,.int .i64 b,.str s]=>Q1 (a,b,s)
 |_=>Q2
def zmr:Bool->AV->Option Int
 |false,.int .i64 n=>Q1 n
 |true,.agg []=>Q1 0
 |_,_=>Q2
def oe(e:List ((Int×Int×zH)×Int))(k:Int×Int×zH):Bool:=e.any λp=>k==p.1
def gR(e:List ((Int×Int×zH)×Int))(k:Int×Int×zH):Int:=((e.find? λp=>k==p.1).map (·.2)).getD 0
def kQ(es:List ((Int×Int×zH)×Int))(k:Int×Int×zH)(x:Int):List ((Int×Int×zH)×Int):=match es with
 |[]=>[(k,x)]
 |p::r=>bif k==p.1 then(k,x)::r else p::kQ r k x
def kc(es:List ((Int×Int×zH)×Int))(k:Int×Int×zH):List ((Int×Int×zH)×Int):=bif oe es k then es else es++[(k,0)]
def lY(es:List ((Int×Int×zH)×Int))(k:Int×Int×zH):Nat:=match es with
 |[]=>0
 |p::r=>bif k==p.1 then 0 else lY r k+1
def kv(e:List ((Int×Int×zH)×Int))(n:Nat)(x:Int):List ((Int×Int×zH)×Int):=match e,n with
 |[],_=>[]
 |p::r,0=>(p.1,x)::r
 |p::r,n+1=>p::kv r n x
def IL(P:Program)(t:TypeId):Bool:=match P.underlying t with
 |some (.int _)=>Q3
 |_=>Q4
def O7(P:Program)(t:TypeId):Bool:=match P.underlying t with
 |some .string=>Q3
 |_=>Q4
def gJ(P:Program)(k:TypeId):Bool:=match P.underlying k with
 | some (.struct b) => !P.stoodInHeld k && !P.eqGuardType P.depth k&&(match b.toList with
  |[h,x,a]=>h.name !="_"&&h.offset==0&&IL P h.type&&(x.name !="_"&&x.offset==1&&IL P x.type)&&(a.name !="_"&&a.offset==2&&O7 P a.type)
  |_=>Q4)
 |_=>Q4
def Yt(P:Program)(sh:TypeId->Option Sh)(t:TypeId):Option AO:=match P.underlying t with
 | some (.map k x)=>match P.underlying k with
  |some .string=>Q1 (.fmap [])
  | _=>if gJ P k then match P.underlying x with
    |some (.int .i64)=>Q1 (.vmap Q4 [])
    |some (.struct a)=>if a.size=0 then Q1 (.vmap Q3 [])else Q2
    |some (.slice h)=>(sh h).map λe=>.gmap e []
    |_=>Q2
   else Q2
 |_=>Q2
def uU(P:Program)(h:Nat->AO)(t:TypeId)(m k x:AV):Tr fM:=
 match P.underlying t with
 | some (.map a _)=>match P.underlying a with
  | some .string=>match m,k with
   | .mp id,.str s=>match h id with
    |.fmap e=>.chk (!(e.any λp=>p.1==s)) (.ok {val:=.tup [],wr:=[(id,.fmap (e++[(s,x)]))]})
    |_=>.err
   |_,_=>.err
  | some (.struct _)=>if gJ P a then match m,Qq k with
    | .mp id,Q1 v=>match h id with
     | .vmap u e=>match zmr u x with
      |some n=>.ok {val:=.tup [],wr:=[(id,.vmap u (kQ e v n))]}
      |none=>.err
     |_=>.err
    |_,_=>.err
   else .err
  |_=>.err
 |_=>.err
def uT(P:Program)(x:Nat->AO)(t:TypeId)(m k:AV):Tr fM:=
 match P.underlying t with
 | some (.map a h)=>if gJ P a then match m,Qq k with
   | .mp id,Q1 v=>match x id with
    | .vmap Q4 e=>match td P h with
     |some (.int .i64 z)=>if z=0 then .chk (Q0 (Io e<=1073741824)) (.ok {val:=.tup [.int .i64 (gR e v),.int .i64 (lY e v)],wr:=[(id,.vmap Q4 (kc e v))]})else .err
     |_=>.err
    |_=>.err
   |_,_=>.err
  else .err
 |_=>.err
def oD(h:Nat->AO)(m s x:AV):Tr fM:=
 match m,s,x with
 | .mp id,.int .i64 n,.int .i64 y=>match h id with
  |.vmap Q4 e=>.chk (zK n (Io e)) (.ok {val:=.tup [],wr:=[(id,.vmap Q4 (kv e n.toNat y))]})
  |_=>.err
 |_,_,_=>.err
def zhh(P:Program)(e:TypeId):Tr fM:=match td P e with
 |some z=>ret (.tup [z,.kb Q4])
 |none=>.err
def kI{e:Sh}(h:List ((Int×Int×zH)×List (Sem e)))(k:Int×Int×zH):List (Sem e):=match h with
 |[]=>[]
 |p::r=>bif k==p.1 then p.2 else kI r k
def me{α:Type}(e:List ((Int×Int×zH)×α))(k:Int×Int×zH):List ((Int×Int×zH)×α):=match e with
 |[]=>[]
 |p::r=>bif k==p.1 then r else p::me r k
def C1(P:Program)(x:Nat->AO)(t:TypeId)(m k:AV):Tr fM:=
 match P.underlying t with
 | some (.map a _)=>if gJ P a then match m,Qq k with
   | .mp id,Q1 v=>match x id with
    |.gmap e h=>.ok {val:=.tup [],wr:=[(id,.gmap e (me h v))]}
    |_=>.err
   |_,_=>.err
  else .err
 |_=>.err
def ly(P:Program)(b:Nat->AO)(t:TypeId)(x i:AV)(two:Bool):Tr fM:=
 match P.underlying t with
 | some (.map k a)=>match P.underlying k with
  | some .string=>match x,i with
   | .mp id,.str s=>match b id with
    |.fmap h=>if two then IV h s (zhh P a)else RJ h s (FD (td P a))
    |_=>.err
   |_,_=>.err
  | some (.struct _)=>if gJ P k then match x,Qq i with
    | .mp id,Q1 v=>match b id with
     | .vmap u h=>match td P a with
      |some (.int .i64 z)=>if u=Q4/\z=0 then ret (ite two (.tup [.int .i64 (gR h v),.bool (oe h v)]) (.int .i64 (gR h v)))else .err
      |some (.agg c)=>if u=Q3/\c.isEmpty=Q3 then ret (ite two (.tup [.agg [],.bool (oe h v)]) (.agg []))else .err
      |_=>.err
     | .gmap e h=>match td P a with
      |some .nils=>if two=Q4 then ret (.sl e (kI h v))else .err
      |_=>.err
     |_=>.err
    |_,_=>.err
   else .err
  |_=>.err
 |_=>.err
def WV(E:cg)(h:Operand->AV)(a:Nat->AO)(n:Nat)(c:Call):Tr fM:=
 match c.callee with
 | .value f=>match h f with
  | .clo (.func k) first caps=>match E.F k with
   |some F=>F (first++c.args.toList.map h++caps) a n
   |none=>.err
  |_=>.err
 | .builtin .len=>match c.args.toList.map h,c.argTypes.toList with
  |[x],[t]=>WW E.P a t x
  |_,_=>.err
 | .builtin .append=>match c.args.toList.map h,c.argTypes.toList with
  | [b,x],[t,d]=>match E.P.underlying t,E.P.underlying d with
   |some (.slice e),Q1 (.slice _)=>nu E a n e b x
   |_,_=>.err
  |_,_=>.err
 | .builtin .delete=>match c.args.toList.map h,c.argTypes.toList with
  |[m,k],[t,_]=>C1 E.P a t m k
  |_,_=>.err
 |_=>.err
def jh(l:List Int):zH:=l.map λn=>UInt8.ofNat n.toNat
def IA(P:Program)(e:TypeId):AV->Tr fM
 | .sl (.int .u8) l=>match P.underlying e with
  |some (.int .u8)=>ret (.str (jh l))
  |_=>.err
 |_=>.err
def qc(E:cg)(h:Operand->AV)(j:Nat->AO)(n:Nat)(o:Oper):Tr fM:=
 match o.op with
 |.move x|.assign x=>ret (h x)
 | .pick c a b=>match h c with
  |.kb Q3=>ret (h a)
  |.kb Q4=>ret (h b)
  |.bool x=>FD (rG x (h a) (h b))
  |_=>.err
 | .box _ x=>match cellsOf (h x) with
  |some q=>.ok {val:=.ptr n 0,nw:=[.box q]}
  |none=>.err
 | .alloc t=>match zas E.P t with
  |some q=>.ok {val:=.ptr n 0,nw:=[.box q]}
  |none=>.err
 |.load t a=>IE E.P j t (h a)
 |.store t a x=>IF E.P j t (h a) (h x)
 |.fieldAddr t x f=>IC E.P t f (h x)
 | .field t x f=>match A3 E.P t f,h x with
  |some A,.agg q=>FD (sV E.P A.type q A.offset)
  |_,_=>.err
 |.indexAddr t x i=>qb E.P j t (h x) (h i)
 |.index t x i=>ID E.P t (h x) (h i)
 |.build t g=>FD (Of E.P t (g.toList.map λp=>(p.1,h p.2)))
 | .buildSlice t u g=>match E.own with
  |true=>tH E j n t u (g.toList.map λp=>(p.1,h p.2))
  |false=>oC E j t u (g.toList.map λp=>(p.1,h p.2))
 |.binOp G t x y _=>zjA E.P G t (h x) (h y)
 | .unOp .not _ x=>match h x with
  |.bool b=>ret (.bool (!b))
  |.kb b=>ret (.kb (!b))
  |_=>.err
 | .unOp .neg _ x=>match h x with
  |.int k a=>ret (.int k (k.wrap (0-a)))
  |_=>.err
 | .convert z v x=>match E.P.underlying z,E.P.underlying v,h x with
  |some _,Q1 (.int k),.int _ a=>ret (.int k (k.wrap a))
  |some _,Q1 .string,.str s=>ret (.str s)
  |some (.slice B),Q1 .string,.sl e l=>IA E.P B (.sl e l)
  |_,_,_=>.err
 |.slice t x D C F=>C3 E.P j t (h x) (D.map h) (C.map h) (F.map h)
 | .extract x i=>match h x with
  |.tup H=>FD H[i]?
  |_=>.err
 |.makeFunc fn first caps=>ret (.clo fn (first.toList.map h) (caps.toList.map h))
 | .nilCheck x=>match h x with
  |.ptr a b=>ret (.ptr a b)
  |.eptr a b=>ret (.eptr a b)
  |.vptr a b c d=>ret (.vptr a b c d)
  |.clo (.func f) a b=>ret (.clo (.func f) a b)
  |_=>.err
 |.call c=>WV E h j n c
 | .makeMap t Q2=>match Yt E.P E.sh t with
  |some o=>.ok {val:=.mp n,nw:=[o]}
  |none=>.err
 |.insert t m k x=>uU E.P j t (h m) (h k) (h x)
 |.mapUpdate t m k x=>uU E.P j t (h m) (h k) (h x)
 |.lookup t x i two=>ly E.P j t (h x) (h i) two
 |.mapEntry t m k=>uT E.P j t (h m) (h k)
 |.entryStore _ m s x=>oD j (h m) (h s) (h x)
 |_=>.err
mutual
def AV.ids:AV->List Nat
 |.vec id|.ptr id _|.vptr id _ _ _|.mp id=>[id]
 |.eptr c _|.agg c|.tup c=>AV.idsL c
 |.clo _ a b=>AV.idsL a++AV.idsL b
 |_=>[]
def AV.idsL:List AV->List Nat
 |[]=>[]
 |v::r=>v.ids++AV.idsL r
end
mutual
def AV.ren(f:Nat->Nat):AV->AV
 |.vec id=>.vec (f id)
 |.ptr id o=>.ptr (f id) o
 |.vptr id sz i o=>.vptr (f id) sz i o
 |.mp id=>.mp (f id)
 |.eptr c o=>.eptr (AV.renL f c) o
 |.agg c=>.agg (AV.renL f c)
 |.tup c=>.tup (AV.renL f c)
 |.clo g a b=>.clo g (AV.renL f a) (AV.renL f b)
 |v=>v
def AV.renL(f:Nat->Nat):List AV->List AV
 |[]=>[]
 |v::r=>v.ren f::AV.renL f r
end
def AO.ids:AO->List Nat
 |.box c=>AV.idsL c
 |.fmap e=>AV.idsL (e.map (·.2))
 |_=>[]
def AO.ren(f:Nat->Nat):AO->AO
 |.box c=>.box (AV.renL f c)
 |.fmap e=>.fmap (e.map λp=>(p.1,p.2.ren f))
 |o=>o
def kH(h:Nat->AO):Nat->List Nat->List Nat->List Nat
 |0,_,s=>s
 |_+1,[],s=>s
 |n+1,i::r,s=>if s.contains i then kH h n r s else kH h n (r++(h i).ids) (s++[i])
def iM:Op->Bool
 |.load ..|.store ..|.indexAddr ..|.buildSlice ..|.slice ..|.call _|.insert ..|.mapUpdate ..|.lookup ..|.mapEntry ..|.entryStore ..=>Q3
 |_=>Q4
def tt:Op->Bool
 |.call _=>Q3
 |_=>Q4
def uY(h:Nat->AO)(e:Operand->AV)(o:Oper):List Nat:=
 if tt o.op then kH h 400 (AV.idsL (o.op.operands.toList.map e)) []else if iM o.op then AV.idsL (o.op.operands.toList.map e)else[]
def L5(h:Nat->AO)(e:Operand->AV)(o:Oper):Bool:=
 !iM o.op||(AV.idsL (o.op.operands.toList.map e)).all (λi=>(uY h e o).contains i)&&(!tt o.op||(uY h e o).all (λi=>(h i).ids.all λj=>(uY h e o).contains j))
structure FY where
 fp:List Nat:=[]
 wr:List Nat:=[]
 base:Nat:=0
 nw:Nat:=0
structure RS where
 tmps:List AV
 heap:List AO
 known:List (Nat×Bool):=[]
 touched:Bool:=Q4
 log:List FY:=[]
def RS.hp(s:RS)(id:Nat):AO:=s.heap.getD id .dead
def wJ(E:cg)(tmps:List AV)(known:List (Nat×Bool)):Operand->AV
 | .tmp t=>match known.lookup t with
  |some b=>.kb b
  |none=>tmps.getD t .any
 |.const v=>wO v
 |.global g=>E.gl g
 |.func f=>.clo (.func f) [] []
def og(h:List AO):List (Nat×AO)->List AO
 |[]=>h
 |(i,o)::r=>og (h.set i o) r
def mf(tmps:List AV)(h:Option Tmp)(v:AV):List AV:=match h with
 |some d=>tmps.set d v
 |none=>tmps
def tL(known:List (Nat×Bool))(h:Option Tmp):List (Nat×Bool):=match h with
 |some d=>known.filter λp=>p.1!=d
 |none=>known
def FA(E:cg)(o:Oper)(s:RS):Tr RS:=
  if L5 s.hp (wJ E s.tmps s.known) o then
  (qc E (wJ E s.tmps s.known) s.hp s.heap.length o).bind λf=>
    if f.wr.all (λp=>p.1<s.heap.length&&(uY s.hp (wJ E s.tmps s.known) o).contains p.1)then
    .ok {tmps:=mf s.tmps o.dst f.val,heap:=og s.heap f.wr++f.nw,known:=tL s.known o.dst,
          touched:=s.touched||!(f.wr.isEmpty&&f.nw.isEmpty),
          log:=s.log++[{fp:=uY s.hp (wJ E s.tmps s.known) o,wr:=f.wr.map (·.1),base:=s.heap.length,nw:=f.nw.length}]}
    else .err
  else .err
def mP(o:Oper)(s:RS):RS:=
 {s with tmps:=mf s.tmps o.dst (.tup []),known:=tL s.known o.dst,log:=s.log++[{}]}
def uf(E:cg)(x:List Oper)(s:RS)(o:Oper):Tr RS:=
 match o.guard with
 |none=>FA E o s
 | some (j,h)=>match (x[j]?).bind (·.dst) with
  |none=>.ok (mP o s)
  | some d=>match wJ E s.tmps s.known (.tmp d) with
   |.kb b=>if b==h then FA E o s else .ok (mP o s)
   |.tup _=>.ok (mP o s)
   | .bool b=>
    let y:RS:={s with known:=(d,Q3)::s.known}
    let n:RS:={s with known:=(d,Q4)::s.known}
    .br b (ite h (FA E o y) (.ok (mP o y))) (ite h (.ok (mP o n)) (FA E o n))
   |_=>.err
def bU(E:cg)(ops:List Oper):List Oper->RS->Tr RS
 |[],s=>.ok s
 |o::r,s=>(uf E ops s o).bind (bU E ops r)
def Tw(o:List Oper):List Nat:=o.filterMap (·.dst)
def dF(c:Bool):List Nat->List AV->List AV->List AV->List AV
 |[],p,_,_=>p
 |d::r,p,t,f=>dF c r (p.set d ((rG c (t.getD d .any) (f.getD d .any)).getD .any)) t f
def zcv:AV->AV->Bool
 |.clo (.func a) _ _,.clo (.func b) _ _=>a !=b
 |.clo _ _ _,.nilf=>Q3
 |.nilf,.clo _ _ _=>Q3
 |_,_=>Q4
def uH(h:List Nat)(l x:List AV):Bool:=h.any λd=>zcv (l.getD d .any) (x.getD d .any)
def AN(d:List Nat)(p:List AV):Tr RS->Option (Option Bool×List AV)
 |.err=>Q2
 |.ok s=>if s.touched then Q2 else Q1 (Q2,s.tmps)
 | .chk c t=>match AN d p t with
  |some (Q2,l)=>Q1 (Q1 c,l)
  |some (Q1 x,l)=>Q1 (Q1 (c&&x),l)
  |none=>Q2
 | .br c t f=>match AN d p t,AN d p f with
  |some (Q2,l),Q1 (Q2,h)=>if uH d l h then Q2 else Q1 (Q2,dF c d p l h)
  |some (Q1 a,l),Q1 (Q2,h)=>if uH d l h then Q2 else Q1 (Q1 (cond c a Q3),dF c d p l h)
  |some (Q2,l),Q1 (Q1 b,h)=>if uH d l h then Q2 else Q1 (Q1 (cond c Q3 b),dF c d p l h)
  |some (Q1 a,l),Q1 (Q1 b,h)=>if uH d l h then Q2 else Q1 (Q1 (cond c a b),dF c d p l h)
  |_,_=>Q2
def zrg{α:Type}:Tr α->Bool
 |.br ..=>Q3
 |.chk _ t=>zrg t
 |_=>Q4
def zbU:List Oper->List (List Nat)->List (List Nat)
 |[],a=>a
 |o::r,a=>zbU r (a++[o.after.toList.flatMap λe=>if Region.binds .any e then e.on::a.getD e.on []else[]])
def ff(h:List Oper)(o:Oper):List Nat:=
  (o.op.operands.toList.filterMap λ|.tmp t=>Q1 t|_=>Q2)++
  (match o.guard with
   |some (j,_)=>((h[j]?).bind (·.dst)).toList
   |none=>[])
def iL(a b:List Nat):Bool:=a.any λx=>b.contains x
def gH(r:FY)(x:Nat):Bool:=Q0 (r.base<=x)&&Q0 (x<r.base+r.nw)
def uG(o:List Oper)(h x:Oper)(ri rj:FY):Bool:=
 iL h.dst.toList (ff o x)||iL h.dst.toList x.dst.toList||iL (ff o h) x.dst.toList||
 iL ri.wr rj.fp||iL ri.fp rj.wr||rj.fp.any (gH ri)||ri.fp.any (gH rj)
def dq(r:FY)(id:Nat):Bool:=r.wr.contains id||gH r id
def ZX(o:List Oper)(c:List FY)(g:List (List Nat))(i j:Nat)(h x:Oper)(d e:FY):Bool:=
 match h.op,x.op,d.fp,e.wr with
 | .lookup _ _ _ Q4,.mapEntry _ _ _,[a],[b]=>b==a&&d.wr.isEmpty&&d.nw==0&&e.nw==0&&
  !(iL h.dst.toList (ff o x)||iL h.dst.toList x.dst.toList||iL (ff o h) x.dst.toList)&&
  (List.range (Io o)).all λl=>match c[l]? with
   |some k=>!dq k a||Q0 (l<i)||l==j||(Q0 (j<l)&&(g.getD l []).contains i)
   |none=>Q4
 |_,_,_,_=>Q4
def vB(o:List Oper)(l:List FY):Bool:=
 let a:=zbU o []
 (o.zipIdx.all λp=>p.1.after.toList.all λe=>!Region.binds .any e||Q0 (e.on<p.2))&&
 (List.range (Io o)).all λj=>(List.range j).all λi=>
  match o[i]?,o[j]?,l[i]?,l[j]? with
  |some h,Q1 x,Q1 b,Q1 c=>!uG o h x b c||(a.getD j []).contains i||ZX o l a i j h x b c
  |_,_,_,_=>Q4
def checked(o:List Oper):Tr RS->Tr RS
 |.err=>.err
 |.chk c t=>.chk c (checked o t)
 |.br c t f=>.br c (checked o t) (checked o f)
 |.ok s=>if vB o s.log then .ok s else .err
def RS.out(s:RS):St:={tmps:=s.tmps,heap:=s.heap}
def jp(E:cg)(ops:List Oper)(draw:Bool)(h:St):Tr St:=
 let t0:=bU E ops ops {tmps:=h.tmps,heap:=h.heap}
 let t:=if draw then checked ops t0 else t0
 if zrg t then match AN (Tw ops) h.tmps t with
  |some (Q2,l)=>.ok {h with tmps:=l}
  |some (Q1 c,l)=>.chk c (.ok {h with tmps:=l})
  |none=>t.bind λs=>.ok s.out
 else t.bind λs=>.ok s.out
inductive zO where
 |head (key:Nat) (k:List Item) (st:St)
 |ret (v:AV) (heap:List AO)
 |fork (c:Bool) (k1 k2:List Item) (st:St)
def I0:Code->Code->Option (Nat×Nat×Nat×TypeId×Code×Code)
 | .region _ ops Q4,.cond (.tmp d') a b=>match ops.toList with
  | [o1,o2]=>match o1.dst,o1.op,o1.guard,o2.dst,o2.op,o2.guard with
   |some x,.move (.tmp s),Q2,Q1 d,.binOp .eql t (.tmp h) (.const (.slice Q2 0 0)) _,Q2=>if h=x/\d'=d/\x≠d then Q1 (s,x,d,t,a,b)else Q2
   |_,_,_,_,_,_=>Q2
  |_=>Q2
 |_,_=>Q2
def Ip(h:Nat->AO):AV->Option Bool
 |.nils=>Q1 Q3
 |.sl _ l=>Q1 l.isEmpty
 | .vec id=>match h id with
  |.vec _ l=>Q1 l.isEmpty
  |.frz _ l=>Q1 l.isEmpty
  |_=>Q2
 |_=>Q2
def O6(P:Program)(t:TypeId):Bool:=match P.underlying t with
 |some (.slice _)=>Q3
 |_=>Q4
def FC(keep:List Nat):Nat->List AV->List AV
 |_,[]=>[]
 |i,v::r=>(ite (keep.contains i) v (.any))::FC keep (i+1) r
def vD(h:St):Nat×Option Nat×Sh->St
 | (s,Q2,e)=>match h.tmps.getD s .any with
  |.nils=>{tmps:=h.tmps.set s (.vec h.heap.length),heap:=h.heap++[.vec e []]}
  |_=>h
 | (s,some c,e)=>match h.tmps.getD s .any with
  | .ptr id 0=>match h.hp id with
   | .box x=>match x.getD c .any with
    |.nils=>{tmps:=h.tmps,heap:=h.heap.set id (.box (x.set c (.vec h.heap.length)))++[.vec e []]}
    |_=>h
   |_=>h
  |_=>h
def HM(h:St):Nat×Nat->St
 | (s,c)=>match h.tmps.getD s .any with
  | .ptr id 0=>match h.hp id with
   | .box x=>match x.getD c .any with
    | .vec k=>match Df (h.hp k) with
     |.frz e l=>{tmps:=h.tmps,heap:=(h.heap.set k (.frz e l)).set id (.box (x.set c (.sl e l)))}
     |_=>h
    |_=>h
   |_=>h
  |_=>h
structure aP where
 slots:List Nat:=[]
 prom:List (Nat×Option Nat×Sh):=[]
 unroll:Bool:=Q4
 sett:List (Nat×Nat):=[]
 cut:Bool:=Q4
def RO:List Nat->Bool
 |[]=>Q3
 |i::r=>!r.contains i&&RO r
def kR(hp:Nat->AO)(n0:Nat)(x h:List Nat):Bool:=
 x.all (λi=>h.contains i)&&h.all (λi=>(hp i).ids.all λj=>h.contains j)&&RO h&&h.take n0==List.range n0
def zg9(n0:Nat)(s:St):Option St:=
 let h:=kH s.hp 400 (List.range n0++AV.idsL s.tmps) []
 if kR s.hp n0 (AV.idsL s.tmps) h then
  Q1 {tmps:=AV.renL (λi=>h.idxOf i) s.tmps,heap:=h.map λi=>(s.hp i).ren λi=>h.idxOf i}
 else Q2
def zli(n0:Nat)(k:aP)(s:St):Option St:=
 zg9 n0 (k.prom.foldl vD {s with tmps:=FC k.slots 0 s.tmps})
def lC(n0:Nat)(k:aP)(h:Nat)(t:List Item)(x:St):Tr zO:=
 match zli n0 k x with
 |some s=>.ok (.head h t s)
 |none=>.err
def eN:Code->Nat
 |.region id _ _=>id
 |.seq a _=>eN a
 |.block _ c=>eN c
 |.loop c=>eN c
 |.scope c=>eN c
 |_=>0
def JP(E:cg)(s:St):ResultVar->Option AV
 |.tmp t=>Q1 (s.tmps.getD t .any)
 | .cell a t=>match s.tmps.getD a .any with
  | .ptr id off=>match s.hp id with
   |.box c=>sV E.P t c off
   |_=>Q2
  |_=>Q2
def we(E:cg)(s:St):List ResultVar->Option (List AV)
 |[]=>Q1 []
 | r::rs=>match JP E s r,we E s rs with
  |some v,Q1 h=>Q1 (v::h)
  |_,_=>Q2
def I6:List AV->AV
 |[v]=>v
 |vs=>.tup vs
def wc(E:cg)(n0:Nat)(x:List ResultVar)(s:St):Tr zO:=
 match we E s x with
 | some a=>
  let v:AV:=I6 a
  let h:=kH s.hp 400 (List.range n0++v.ids) []
  if kR s.hp n0 v.ids h then .ok (.ret (v.ren λi=>h.idxOf i) (h.map λi=>(s.hp i).ren λi=>h.idxOf i))else .err
 |none=>.err
def A1(s:St)(c:Operand)(b:Bool):St:=match c with
 |.tmp t=>{s with tmps:=s.tmps.set t (.kb b)}
 |_=>s
def run(E:cg)(n0:Nat)(keep:Nat->aP)(e:List ResultVar):Nat->List Item->St->Tr zO
 |0,_,_=>.err
 | n + 1,i,h=>match i with
  |[]=>wc E n0 e ((keep 1000000).sett.foldl HM ((keep 1000000).prom.foldl vD h))
  |.inBlock _::k=>run E n0 keep e n k h
  |.inLoop c::k=>if(keep (eN c)).unroll then run E n0 keep e n (.code c::.inLoop c::k) h else lC n0 (keep (eN c)) (eN c) (.code c::.inLoop c::k) h
  | .code c::k=>match c with
   |.skip=>run E n0 keep e n k h
   |.label _=>run E n0 keep e n k h
   | .seq a b=>match I0 a b with
    | some (s,x,d,t,l,j)=>match Ip h.hp (h.tmps.getD s .any) with
     |some c=>if O6 E.P t&&(Q0 (d<h.tmps.length)&&Q0 (x<h.tmps.length))then .ok (.fork c (.code l::k) (.code j::k) {h with tmps:=(h.tmps.set x (h.tmps.getD s .any)).set d .any})else .err
     |none=>.err
    |none=>run E n0 keep e n (.code a::.code b::k) h
   | .cond c a b=>match wJ E h.tmps [] c with
    |.kb Q3=>run E n0 keep e n (.code a::k) h
    |.kb Q4=>run E n0 keep e n (.code b::k) h
    |.bool x=>.br x (run E n0 keep e n (.code a::k) (A1 h c Q3)) (run E n0 keep e n (.code b::k) (A1 h c Q4))
    |_=>.err
   |.block id c=>run E n0 keep e n (.code c::.inBlock id::k) h
   |.loop c=>if(keep (eN c)).unroll then run E n0 keep e n (.code c::.inLoop c::k) h else lC n0 (keep (eN c)) (eN c) (.code c::.inLoop c::k) h
   | .exit id=>match exitTo id k with
    |some m=>run E n0 keep e n m h
    |none=>.err
   |.ret=>wc E n0 e ((keep 1000000).sett.foldl HM ((keep 1000000).prom.foldl vD h))
   |.region id ops draw=>(jp E ops.toList draw h).bind λg=>if(keep (id+500000)).cut then lC n0 (keep (id+500000)) (id+500000) k g else run E n0 keep e n k g
   |_=>.err
  |_=>.err
def aW(n:Nat)(a:List AV)(heap:List AO):St:={tmps:=a++List.replicate (n-Io a) (.tup []),heap}
def tm(n:Nat)(l:List (Nat×AV)):List AV:=l.foldl (λa p=>a.set p.1 p.2) (List.replicate n .any)
open Tr (chk br)
open AV (nils agg tup ptr kb str sl)
def cZ(k:IntKind)(n:Int):Prop:=k.min<=n/\n<=k.max
def aI:Nat:=9223372036854775807
theorem um(h:p:=by unfold aI;omega):p:=h
inductive Rv (w:World) (U:Nat->Prop) (ρ:Nat->Option Value):AV->Value->Prop
 |any (v:Value):Rv w U ρ .any v
 |kb (b:Bool):Rv w U ρ (.kb b) (.bool b)
 |bool (b:Bool):Rv w U ρ (.bool b) (.bool b)
 |int (k:IntKind) (n:Int) (h:cZ k n):Rv w U ρ (.int k n) (.int k n)
 |str (s:zH) (h:Io s<=aI):Rv w U ρ (.str s) (.string ⟨s.toArray⟩)
 |nils (a:Option Addr):Rv w U ρ .nils (.slice a 0 0)
 |sl0 (e:Sh) (a:Option Addr) (c:Nat):Rv w U ρ (.sl e []) (.slice a 0 c)
 | sl (e:Sh) (l:List (Sem e)) (b o c:Nat) (vals:Nat→Nat→Value) (hc:Io l≤c) (hm:Io l≤aI) (hb:b < w.heap.size) (hU:¬ U b)
   (hcell:∀i j,i<Io l->j<e.size->w.cell? ⟨b,o+i*e.size+j,Q2⟩=Q1 (vals i j))
   (hr:∀i(hi:i<Io l)(j:Nat)(c:AV),(zz e l[i])[j]?=Q1 c->Rv w U ρ c (vals i j)):
   Rv w U ρ (.sl e l) (.slice (Q1 ⟨b,o,Q2⟩) (Io l) c)
 |vec (id:Nat) (v:Value) (h:ρ id=Q1 v) (h1:v.oneCell'=Q3):Rv w U ρ (.vec id) v
 |ptr (id off b:Nat) (h:ρ id=Q1 (.pointer (Q1 ⟨b,0,Q2⟩))):Rv w U ρ (.ptr id off) (.pointer (Q1 ⟨b,off,Q2⟩))
 |vptr (id sz i off b n c:Nat) (h:ρ id=Q1 (.slice (Q1 ⟨b,0,Q2⟩) n c)):Rv w U ρ (.vptr id sz i off) (.pointer (Q1 ⟨b,i*sz+off,Q2⟩))
 | eptr (cs:List AV) (off b o:Nat) (vals:Nat→Value) (hb:b < w.heap.size) (hU:¬ U b)
   (hcell:∀j,j<Io cs->w.cell? ⟨b,o+j,Q2⟩=Q1 (vals j)) (h1:∀j,j<Io cs->(vals j).oneCell'=Q3)
   (hr:∀(j:Nat)(c:AV),cs[j]?=Q1 c->Rv w U ρ c (vals j)):Rv w U ρ (.eptr cs off) (.pointer (Q1 ⟨b,o+off,Q2⟩))
 |nilp:Rv w U ρ .nilp (.pointer Q2)
 | agg (cs:List AV) (vs:List Value) (hl:Io cs=Io vs) (h1:∀ v∈vs,v.oneCell'=Q3)
   (hr:∀(j:Nat)(c:AV)(v:Value),cs[j]?=Q1 c->vs[j]?=Q1 v->Rv w U ρ c v):Rv w U ρ (.agg cs) (.agg vs.toArray)
 | tup (cs:List AV) (vs:List Value) (hl:Io cs=Io vs)
   (hr:∀(j:Nat)(c:AV)(v:Value),cs[j]?=Q1 c->vs[j]?=Q1 v->Rv w U ρ c v):Rv w U ρ (.tup cs) (.tuple vs.toArray)
 | clo (fn:Fn) (fs cs:List AV) (vf vc:List Value) (hf:Io fs=Io vf) (hc:Io cs=Io vc)
   (hrf:∀(j:Nat)(c:AV)(v:Value),fs[j]?=Q1 c->vf[j]?=Q1 v->Rv w U ρ c v) (hrc:∀(j:Nat)(c:AV)(v:Value),cs[j]?=Q1 c->vc[j]?=Q1 v->Rv w U ρ c v):
   Rv w U ρ (.clo fn fs cs) (.func fn vf.toArray vc.toArray)
 |nilf:Rv w U ρ .nilf .nilFunc
 |mp (id:Nat) (v:Value) (h:ρ id=Q1 v) (h1:v.oneCell'=Q3):Rv w U ρ (.mp id) v
 |ifcN:Rv w U ρ (.ifc Q3) .nilIface
 |ifcS (t:TypeId) (v:Value):Rv w U ρ (.ifc Q4) (.iface t v)
 |tab (k:IntKind) (zs:List Int) (b:Nat) (T:TypeId) (fr:Nat×Nat) (hb:w.heap[b]?=Q1 (.cells (zs.map λz=>Value.int k z).toArray T fr)) (hU:¬U b):Rv w U ρ (.tab k zs) (.pointer (Q1 ⟨b,0,Q2⟩))
 |gint (m:Int) (b:Nat) (T:TypeId) (fr:Nat×Nat) (hm:cZ .i64 m) (hb:w.heap[b]?=Q1 (.cells #[Value.int .i64 m] T fr)) (hU:¬U b):Rv w U ρ .gint (.pointer (Q1 ⟨b,0,Q2⟩))
structure dg (w:World) (U:Nat->Prop) (ρ:Nat->Option Value) (cs:List AV) (vs:List Value):Prop where
 len:Io cs=Io vs
 rv:∀(j:Nat)(c:AV)(v:Value),cs[j]?=Q1 c->vs[j]?=Q1 v->Rv w U ρ c v
variable {w:World}{v:Value}
theorem uE{n q:Nat}(h:w.cell? ⟨n,q,Q2⟩=Q1 v):n<w.heap.size:=by unfold World.cell? at h;grind
variable {w':World}{U:Nat->Prop}{ρ ρ':Nat->Option Value}{c:AV}
theorem Rv.mono{S:Nat->Prop}(W:w.heap.size<=w'.heap.size)
  (H:∀b,b<w.heap.size->¬U b->w'.heap[b]?=w.heap[b]?) (D:∀b,b<w.heap.size->S b->U b) (E:∀id v,ρ id=Q1 v->ρ' id=Q1 v)
    (h:Rv w U ρ c v):Rv w' S ρ' c v:=by
 have g:∀b o v,¬U b->w.cell? ⟨b,o,Q2⟩=Q1 v->w'.cell? ⟨b,o,Q2⟩=Q1 v:=by
  intro b o v x C;rw[World.cell?_of_block (H b (uE C) x)];exact C
 induction h with
 |any v=>exact .any v
 |kb b=>exact .kb b
 |bool b=>exact .bool b
 |int k n h=>exact .int k n h
 |str s h=>exact .str s h
 |nils a=>exact .nils a
 |sl0 e a c=>exact .sl0 e a c
 | sl e l b o c u C J x d A L B=>
  exact .sl e l b o c u C J (gF x W) (λh=>d (D b x h)) (λi j Z G=>g _ _ _ d (A i j Z G)) B
 |vec id v h z=>exact .vec id v (E _ _ h) z
 |ptr id q b h=>exact .ptr id q b (E _ _ h)
 |vptr id sz i q b n c h=>exact .vptr id sz i q b n c (E _ _ h)
 | eptr y q b o u x d A z L B=>
  exact .eptr y q b o u (gF x W) (λh=>d (D b x h)) (λj G=>g _ _ _ d (A j G)) z B
 |nilp=>exact .nilp
 |agg y O I z L B=>exact .agg y O I z B
 |tup y O I L B=>exact .tup y O I B
 |clo fn X y vf vc Y C h2 h0 N M=>exact .clo fn X y vf vc Y C N M
 |nilf=>exact .nilf
 |mp id v h z=>exact .mp id v (E _ _ h) z
 |ifcN=>exact .ifcN
 |ifcS t v=>exact .ifcS t v
 | tab k zs b T F x d=>
  have p:b<w.heap.size:=(mc.1 x).1;exact .tab k zs b T F (by rw[H b p d];exact x) (λh=>d (D b p h))
 | gint m b T F J x d=>
  have p:b<w.heap.size:=(mc.1 x).1;exact .gint m b T F J (by rw[H b p d];exact x) (λh=>d (D b p h))
theorem dg.mono{a:Nat->Prop}(g:w.heap.size<=w'.heap.size)
  (e:∀b,b<w.heap.size->¬U b->w'.heap[b]?=w.heap[b]?) (i:∀b,b<w.heap.size->a b->U b) (l:∀id v,ρ id=Q1 v->ρ' id=Q1 v)
  {j:List AV} {s:List Value} (h:dg w U ρ j s):dg w' a ρ' j s:=
 ⟨h.len,λx c v d k=>(h.rv x c v d k).mono g e i l⟩
variable {U':Nat->Prop}
theorem Rv.weak(x:∀b,U' b->U b)(h:Rv w U ρ c v):Rv w U' ρ c v:=
 h.mono (ah _) (λ_ _ _=>rfl) (λb _=>x b) (λ_ _ h=>h)
def AO.owns:AO->Bool
 |.box _|.vec _ _|.fmap _|.vmap _ _|.gmap _ _=>Q3
 |_=>Q4
def bJ:Value->Option Nat
 |.pointer (Q1 a)=>Q1 a.block
 |.slice (Q1 a) _ c=>if c=0 then Q2 else Q1 a.block
 |.map (Q1 r)=>Q1 r
 |_=>Q2
def af(ρ:Nat->Option Value)(id:Nat)(o:AO)(b:Nat):Prop:=o.owns=Q3/\∃v,ρ id=Q1 v/\bJ v=Q1 b
def cB(k:Int×Int×zH):Value:=.agg #[.int .i64 k.1,.int .i64 k.2.1,.string ⟨k.2.2.toArray⟩]
def eB(k:Int×Int×zH):Prop:=cZ .i64 k.1/\cZ .i64 k.2.1/\Io k.2.2<=aI
def mh(h:Array MapEntry)(c:Nat):Prop:=c=h.size/\∀(i:Nat)(e:MapEntry),h[i]?=Q1 e->e.born=i
def uP(u:Bool)(n:Int):Value:=bif u then .agg #[]else .int .i64 n
def bl(w:World)(U:Nat->Prop)(ρ:Nat->Option Value)(id:Nat):AO->Prop
 |.dead=>True
 |.box m=>∃b T vals,ρ id=Q1 (.pointer (Q1 ⟨b,0,Q2⟩))/\U b/\w.heap[b]?=Q1 (.cells vals T (0,0))/\dg w U ρ m vals.toList/\∀v∈vals.toList,v.oneCell'=Q3
 | .vec e l=>∃ a c,ρ id=Q1 (.slice a (Io l) c)∧Io l≤aI∧((l=[]∧c=0)∨∃ b T g,a=Q1 ⟨b,0,Q2⟩∧0 < c∧U b∧w.heap[b]?=Q1 (.cells g T (0,0))∧
   g.size=c*e.size/\Io l<=c/\∀i(n:i<Io l)(j:Nat)(c:AV),(zz e l[i])[j]?=Q1 c->∃v,g[i*e.size+j]?=Q1 v/\Rv w U ρ c v)
 |.frz e l=>∃v,ρ id=Q1 v/\Rv w U ρ (.sl e l) v
 | .fmap d=>∃ r h x,ρ id=Q1 (.map (Q1 r))∧U r∧w.heap[r]?=Q1 (.map h x)∧dg w U ρ (d.map (·.2)) (h.toList.map (·.val))∧
   h.toList.map (·.key)=d.map λp=>Value.string ⟨p.1.toArray⟩
 | .vmap u d=>∃ r h x,ρ id=Q1 (.map (Q1 r))∧U r∧w.heap[r]?=Q1 (.map h x)∧(h.toList.map fun e=>(e.key,e.val))=(d.map fun p=>(cB p.1,uP u p.2))∧
   (∀p∈d,cZ .i64 p.2/\eB p.1)/\mh h x
 | .gmap e d=>∃ (r:Nat) (h:Array MapEntry) (x:Nat) (k:List ((Int×Int×zH)×Value)),ρ id=Q1 (.map (Q1 r))∧U r∧w.heap[r]?=Q1 (.map h x)∧dg w U ρ (d.map fun p=>sl e p.2) (k.map (·.2))∧
   (h.toList.map λe=>(e.key,e.val))=(k.map λp=>(cB p.1,p.2))/\k.map (·.1)=d.map (·.1)/\∀p∈k,eB p.1
theorem bl.mono{B:Nat->Prop}(y:w.heap.size<=w'.heap.size)
  (t:∀b,b<w.heap.size->¬U b->w'.heap[b]?=w.heap[b]?) (z:∀b,b<w.heap.size->B b->U b) (n:∀id v,ρ id=Q1 v->ρ' id=Q1 v)
  {id:Nat} {o:AO} (h:bl w U ρ id o) (g:∀b,af ρ id o b->w'.heap[b]?=w.heap[b]?/\B b):bl w' B ρ' id o:=by
 cases o with
 |dead=>trivial
 | box S=>
  obtain⟨b,T,A,k,p,m,q,s⟩:=h;have:=g b ⟨rfl,_,k,rfl⟩;exact⟨b,T,A,n _ _ k,this.2,by rw[this.1];exact m,q.mono y t z n,s⟩
 | vec e l=>
  obtain⟨a,c,k,p,m⟩:=h;refine⟨a,c,n _ _ k,p,?_⟩;rcases m with m|⟨b,T,C,rfl,J,W,I,F,D,M⟩
  .exact .inl m
  .have:=g b ⟨rfl,_,k,by simp[bJ];omega⟩;refine .inr ⟨b,T,C,rfl,J,this.2,by rw[this.1];exact I,F,D,λi L j c O=>?_⟩;obtain⟨v,N,E⟩:=M i L j c O;exact⟨v,N,E.mono y t z n⟩
 | frz e l=>
  obtain⟨v,k,p⟩:=h;exact⟨v,n _ _ k,p.mono y t z n⟩
 | fmap G=>
  obtain⟨r,d,x,k,p,m,q,s⟩:=h;have:=g r ⟨rfl,_,k,rfl⟩;exact⟨r,d,x,n _ _ k,this.2,by rw[this.1];exact m,q.mono y t z n,s⟩
 | vmap u G=>
  obtain⟨r,d,x,k,p,m,q,s⟩:=h;have:=g r ⟨rfl,_,k,rfl⟩;exact⟨r,d,x,n _ _ k,this.2,by rw[this.1];exact m,q,s⟩
 | gmap e G=>
  obtain⟨r,d,x,H,k,p,m,q,s⟩:=h;have:=g r ⟨rfl,_,k,rfl⟩;exact⟨r,d,x,H,n _ _ k,this.2,by rw[this.1];exact m,q.mono y t z n,s⟩
theorem bl.inU{id:Nat}{F:AO}(h:bl w U ρ id F){q:Nat}(z:af ρ id F q):U q/\q<w.heap.size:=by
 obtain⟨p,v,d,x⟩:=z;cases F with
 |dead=>simp[AO.owns]at p
 |frz e l=>simp[AO.owns]at p
 | box B=>
  obtain⟨y,T,s,g,k,j,m,n⟩:=h;rw[g]at d;cases d;simp[bJ]at x;grind
 | vec e l=>
  obtain⟨a,c,g,k,j⟩:=h;rw[g]at d;cases d;rcases j with⟨_,rfl⟩|⟨y,T,t,rfl,E,D,A,_⟩
  .cases a<;>simp[bJ]at x
  .simp[bJ]at x;grind
 | fmap o=>
  obtain⟨r,i,b,g,k,j,m,n⟩:=h;rw[g]at d;cases d;simp[bJ]at x;grind
 | vmap u o=>
  obtain⟨r,i,b,g,k,j,m,n⟩:=h;rw[g]at d;cases d;simp[bJ]at x;grind
 | gmap e o=>
  obtain⟨r,i,b,C,g,k,j,m,n⟩:=h;rw[g]at d;cases d;simp[bJ]at x;grind
theorem ag:∀(s:Sh)(x:Sem s),(zz s x).length=s.size
 |.unit,_=>rfl
 |.bool,_=>rfl
 |.int _,_=>rfl
 |.str,_=>rfl
 |.sl _,_=>rfl
 |.pr a b,x=>by simp[zz,Sh.size,ag a,ag b]
 |.expr,_=>rfl
variable {hp:Nat->AO}
theorem uy{e:Sh}{l:List (Sem e)}
  (h:tj hp e c=Q1 l) (A:Rv w U ρ c v) (D:∀b,U' b->U b)
  (y:∀id∈cW c,bl w U ρ id (hp id)) (z:∀id∈cW c,∀b,af ρ id (hp id) b->¬U' b):Rv w U' ρ (.sl e l) v:=by
 cases c<;>simp[tj]at h
 case nils=>
  subst h;cases A;exact .sl0 e _ _
 case sl d o=>
  obtain⟨rfl,h⟩:=h;subst h;exact A.weak D
 case vec id=>
  cases A with
  |vec _ _ E _=>
  have p:=y id (by simp[cW]);have H:=z id (by simp[cW]);cases g:hp id with
  |dead=>simp[g]at h
  |box X=>simp[g]at h
  |fmap G=>simp[g]at h
  |vmap u G=>simp[g]at h
  |gmap e G=>simp[g]at h
  | frz d o=>
   simp[g]at h;obtain⟨rfl,h⟩:=h;subst h;rw[g]at p;obtain⟨v',x,k⟩:=p;rw[E]at x;cases x;exact k.weak D
  | vec d o=>
   simp[g]at h;obtain⟨rfl,h⟩:=h;subst h;rw[g]at p H;obtain⟨a,c,x,S,M⟩:=p;rw[E]at x;cases x;rcases M with⟨O,N⟩|⟨b,T,m,rfl,N,Y,I,C,q,B⟩
   .show Rv w U' ρ (.sl d o) _;subst O;exact .sl0 d _ _
   .show Rv w U' ρ (.sl d o) _;have t:¬U' b:=H b ⟨rfl,_,E,by simp[bJ];omega⟩;have n:=(mc.1 I).1;refine .sl d o b 0 c (λi j=>(m[i*d.size+j]?).getD undef) q S n t (λi j J Z=>?_) (λi J j L W=>?_)
    .have s:i*d.size+j<m.size:=by
      rw[C];have:(i+1)*d.size<=c*d.size:=gE _ ow;rw[hV]at this;omega
     simp[World.cell?,I,pD s]
    .obtain⟨v,F,k⟩:=B i J j L W;simp[F];exact k.weak D
theorem oI(q:∀b,U' b->U b):
  ∀(s:Sh)(n:List AV)(x:Sem s)(r:List AV)(d:Nat->Value),dh hp s n=Q1 (x,r)->
   (∀(j:Nat)(c:AV),n[j]?=Q1 c->Rv w U ρ c (d j))->(∀id∈n.flatMap cW,bl w U ρ id (hp id)/\∀b,af ρ id (hp id) b->¬U' b)->
   n.length=s.size+Io r/\r=n.drop s.size/\∀(j:Nat)(c:AV),(zz s x)[j]?=Q1 c->Rv w U' ρ c (d j):=by
 intro s
 induction s with
 | unit=>
  intro n x r d h p m;simp[dh]at h;subst h;refine⟨by simp[Sh.size],by simp[Sh.size],by simp[zz]⟩
 | bool=>
  intro n x r d h p m;cases n with
  |nil=>simp[dh]at h
  | cons c n=>
   cases c<;>simp[dh]at h<;>(obtain⟨rfl,rfl⟩:=h)<;>refine⟨by simp[Sh.size];omega,by simp[Sh.size],?_⟩
   all_goals
    intro j c g;cases j with
    |succ j=>simp[zz]at g
    | zero=>
     simp[zz]at g;subst g;have:=p 0 _ rfl;generalize d 0=v at this;cases this;exact .bool _
 | int k=>
  intro n x r d h p m;cases n with
  |nil=>simp[dh]at h
  | cons c n=>
   cases c<;>simp[dh]at h
   obtain⟨rfl,rfl,rfl⟩:=h;refine⟨by simp[Sh.size];omega,by simp[Sh.size],?_⟩;intro j c g;cases j with
   |succ j=>simp[zz]at g
   | zero=>
    simp[zz]at g;subst g;exact(p 0 _ rfl).weak q
 | str=>
  intro n x r d h p m;cases n with
  |nil=>simp[dh]at h
  | cons c n=>
   cases c<;>simp[dh]at h
   obtain⟨rfl,rfl⟩:=h;refine⟨by simp[Sh.size];omega,by simp[Sh.size],?_⟩;intro j c g;cases j with
   |succ j=>simp[zz]at g
   | zero=>
    simp[zz]at g;subst g;exact(p 0 _ rfl).weak q
 | sl e L=>
  intro n x r d h p m;cases n with
  |nil=>simp[dh]at h
  | cons c n=>
   simp only[dh]at h;split at h
   .rename_i l t;cases h;refine⟨by simp[Sh.size];omega,by simp[Sh.size],?_⟩;intro j c g;cases j with
    |succ j=>simp[zz]at g
    | zero=>
     simp[zz]at g;subst g;exact uy t (p 0 _ rfl) q (λid o=>(m id (by simp[o])).1) (λid o=>(m id (by simp[o])).2)
   .cases h
 | pr a b y z=>
  intro n x r d h p m;simp only[dh]at h;split at h
  .rename_i G F D;split at h
   .rename_i H T E;cases h;obtain⟨M,A,C⟩:=y n G F d D p m;subst A;obtain⟨N,B,J⟩:=z _ H r (λj=>d (a.size+j)) E (λj c g=>by
      grind)
     (λid o=>m id (by
      grind))
    refine⟨?_,?_,?_⟩
    .simp[Sh.size]at*;omega
    .rw[B,F2];simp[Sh.size]
    .intro j c g;simp only[zz]at g;by_cases u:j<a.size
     .rw[kG (by rw[ag];exact u)]at g;exact C j c g
     .rw[jg (by rw[ag];omega),ag]at g;grind
   .cases h
  .cases h
 | expr=>
  intro n x r d h p m;simp only[dh]at h;unfold vj at h;split at h<;>try (cases h;done)
  rename_i O k i W s c S;split at h
  .rename_i l t;cases h;refine⟨by simp[Sh.size];omega,by simp[Sh.size],?_⟩;intro j I g
   match j with
   |0=>simp[zz,za.op]at g;subst g;exact(p 0 _ rfl).weak q
   |1=>simp[zz,za.v]at g;subst g;exact(p 1 _ rfl).weak q
   |2=>simp[zz,za.v]at g;subst g;exact(p 2 _ rfl).weak q
   |3=>simp[zz,za.v]at g;subst g;exact(p 3 _ rfl).weak q
   |4=>simp[zz,za.s]at g;subst g;exact(p 4 _ rfl).weak q
   | 5=>
    simp[zz,za.l]at g;subst g;exact uy t (p 5 _ rfl) q (λid o=>(m id (by simp[o])).1) (λid o=>(m id (by simp[o])).2)
   |j+6=>simp[zz]at g
  .cases h
@[simp] theorem Tr.val_bind  (t:Tr α) (k:α->Tr β):(t.bind k).val=t.val.bind λa=>(k a).val:=by
 induction t with
 |err=>rfl
 |chk c t x=>cases c<;>simp[Tr.bind,Tr.val,x]
 |br c t f h i=>cases c<;>simp[Tr.bind,Tr.val,h,i]
 |ok a=>rfl
@[simp] theorem Tr.val_err:(Tr.err:Tr α).val=Q2:=rfl
@[simp] theorem Tr.val_ok  (a:α):(Tr.ok a).val=Q1 a:=rfl
@[simp] theorem Tr.val_chk  (c:Bool) (t:Tr α) (a:α):(chk c t).val=Q1 a↔c=Q3/\t.val=Q1 a:=by cases c<;>simp[Tr.val]
@[simp] theorem ztS (v:AV) (f:fM):(ret v).val=Q1 f↔f={val:=v}:=by simp[ret,eq_comm]
@[simp] theorem ztK (v:Option AV) (f:fM):(FD v).val=Q1 f↔∃x,v=Q1 x/\f={val:=x}:=by cases v<;>simp[FD]
section
variable {P:Program} {w:World} {U:Nat->Prop} {ρ:Nat->Option Value}
variable {t:TypeId}{n:Nat}
theorem cX(h:gh P t=Q1 n)(w:World):(Go.sizeOf t).run P w=.ok n w:=by
 unfold gh at h;cases x:P.info? t with
 |none=>simp[x]at h
 |some i=>simp[x]at h;simp[Go.sizeOf,typeInfo,x,h]
theorem jX{l:Bool}(h:E7 P t=Q1 l)(w:World):(isAgg t).run P w=.ok l w:=by
 unfold E7 at h;cases x:P.underlying t with
 |none=>simp[x]at h
 |some d=>cases d<;>simp[x]at h<;>subst h<;>simp[isAgg,bA x]
theorem Addr.add_none(b o n:Nat):(⟨b,o,Q2⟩:Addr).add n=⟨b,o+n,Q2⟩:=by unfold Addr.add;split<;>simp_all
theorem yh{q E:Nat}(h:(List.range n)[q]?=Q1 E):q<n/\E=q:=by grind
variable {j:List AV}
theorem tV{r:AV}{b o:Nat}{vals:Nat->Value}(h:sV P t j n=Q1 r)
  (e:∀a,a<Io j->w.cell? ⟨b,o+a,Q2⟩=Q1 (vals a)) (q:∀a,a<Io j->(vals a).oneCell'=Q3)
  (p:∀(a:Nat)(c:AV),j[a]?=Q1 c->Rv w U ρ c (vals a)):
  ∃x,(loadVar t ⟨b,o+n,Q2⟩).run P w=.ok x w/\Rv w U ρ r x:=by
 unfold sV at h;split at h
 .rename_i d g m;split at h
  .rename_i l;cases h;refine⟨.agg ((List.range d).map λa=>vals (n+a)).toArray,?_,?_⟩
   .have:=run_loadCells_list (P:=P) w ⟨b,o+n,Q2⟩ ((List.range d).map λa=>vals (n+a)) (λa v k=>by
     rw[Addr.add_none];grind)
    simp only[cQ,List.length_range]at this;simp[loadVar,jX g,cX m,this]
   .refine .agg _ _ sg (λv k=>?_) (λa c v s k=>?_)
    .grind
    grind
  .cases h
 next g=>have i:n<Io j:=(dc.1 h).1;refine⟨vals n,?_,p _ _ h⟩;simp[loadVar,jX g,e n i]
 .cases h
variable {v:Value}
theorem Rv.sl_one{z:Sh}{l:List (Sem z)}(h:Rv w U ρ (.sl z l) v):v.oneCell'=Q3:=by cases h<;>rfl
theorem fW:∀(e:Sh)(x:Sem e)(j:Nat)(c:AV)(v:Value),(zz e x)[j]?=Q1 c->Rv w U ρ c v->v.oneCell'=Q3
 |.unit,_,_,_,_,h,_=>by simp[zz]at h
 |.bool,_,0,_,_,h,d=>by simp[zz]at h;subst h;cases d;rfl
 |.int _,_,0,_,_,h,d=>by simp[zz]at h;subst h;cases d;rfl
 |.str,_,0,_,_,h,d=>by simp[zz]at h;subst h;cases d;rfl
 |.sl _,_,0,_,_,h,d=>by simp[zz]at h;subst h;cases d<;>rfl
 |.bool,_,_+1,_,_,h,_=>by simp[zz]at h
 |.int _,_,_+1,_,_,h,_=>by simp[zz]at h
 |.str,_,_+1,_,_,h,_=>by simp[zz]at h
 |.sl _,_,_+1,_,_,h,_=>by simp[zz]at h
 | .pr a b,x,j,c,v,h,d=>by
  simp only[zz]at h;rcases Nat.lt_or_ge j (zz a x.1).length with g|g
  .rw[kG g]at h;exact fW a _ _ _ _ h d
  .rw[jg g]at h;exact fW b _ _ _ _ h d
 | .expr,x,j,c,v,h,d=>by
  match j with
  |0=>simp[zz]at h;subst h;cases d;rfl
  |1=>simp[zz]at h;subst h;cases d;rfl
  |2=>simp[zz]at h;subst h;cases d;rfl
  |3=>simp[zz]at h;subst h;cases d;rfl
  |4=>simp[zz]at h;subst h;cases d;rfl
  |5=>simp[zz]at h;subst h;exact d.sl_one
  |_+6=>simp[zz]at h
theorem ia{av:AV}(h:cellsOf av=Q1 j)(A:Rv w U ρ av v):
  dg w U ρ j v.cells.toList/\∀x∈v.cells.toList,x.oneCell'=Q3:=by
 have g:∀{av:AV},v.oneCell'=Q3->Rv w U ρ av v->dg w U ρ [av] v.cells.toList/\∀x∈v.cells.toList,x.oneCell'=Q3:=by
  intro av q A;have:v.cells=#[v]:=by cases v<;>simp[Value.oneCell']at q<;>rfl
  rw[this];refine⟨⟨rfl,λd c x C Z=>?_⟩,by simpa using q⟩;cases d with
  |zero=>simp_all
  |succ d=>simp at C
 cases A with
 |any v=>simp[cellsOf]at h
 |tup j X I A=>simp[cellsOf]at h
 | agg J X I q A=>
  simp[cellsOf]at h;subst h;exact⟨⟨by simp[Value.cells,I],λd c v C D=>A d c v C (by simpa[Value.cells]using D)⟩,by simpa[Value.cells]using q⟩
 |kb b=>simp[cellsOf]at h;subst h;exact g rfl (.kb b)
 |bool b=>simp[cellsOf]at h;subst h;exact g rfl (.bool b)
 |int k n N=>simp[cellsOf]at h;subst h;exact g rfl (.int k n N)
 |str s O=>simp[cellsOf]at h;subst h;exact g rfl (.str s O)
 |nils a=>simp[cellsOf]at h;subst h;exact g rfl (.nils a)
 |sl0 e a c=>simp[cellsOf]at h;subst h;exact g rfl (.sl0 e a c)
 |sl e l b o c z C F u B p A=>simp[cellsOf]at h;subst h;exact g rfl (.sl e l b o c z C F u B p A)
 |vec id v D q=>simp[cellsOf]at h;subst h;exact g q (.vec id v D q)
 |ptr id y b u=>simp[cellsOf]at h;subst h;exact g rfl (.ptr id y b u)
 |vptr id sz i y b n c u=>simp[cellsOf]at h;subst h;exact g rfl (.vptr id sz i y b n c u)
 |eptr j y b o z u B p q A=>simp[cellsOf]at h;subst h;exact g rfl (.eptr j y b o z u B p q A)
 |nilp=>simp[cellsOf]at h;subst h;exact g rfl .nilp
 |clo fn L j W S M C H G=>simp[cellsOf]at h;subst h;exact g rfl (.clo fn L j W S M C H G)
 |nilf=>simp[cellsOf]at h;subst h;exact g rfl .nilf
 |mp id v D q=>simp[cellsOf]at h;subst h;exact g q (.mp id v D q)
 |ifcN=>simp[cellsOf]at h;subst h;exact g rfl .ifcN
 |ifcS t v=>simp[cellsOf]at h;subst h;exact g rfl (.ifcS t v)
 |tab k Y b T E u B=>simp[cellsOf]at h;subst h;exact g rfl (.tab k Y b T E u B)
 |gint m b T E F u B=>simp[cellsOf]at h;subst h;exact g rfl (.gint m b T E F u B)
theorem Tn{v:Array Value}{x:Nat×Nat}(h:w.heap[n]?=Q1 (.cells v t x))(j:Nat)(a:j<v.size):
  w.cell? ⟨n,j,Q2⟩=Q1 (v.toList.getD j undef):=by simp[World.cell?,h,pD a,List.getD]
variable {f:fM}
theorem GV{hp:Nat->AO}{av:AV}(h:(IE P hp t av).val=Q1 f)(S:Rv w U ρ av v)
  (F:∀id∈av.ids,bl w U ρ id (hp id)):∃r x,f={val:=r}/\(Instr.loadAt t v).run P w=.ok x w/\Rv w U ρ r x:=by
 unfold IE at h;split at h
 .rename_i id H;cases S with
  |ptr _ _ b J=>
  have E:=F id (by simp[AV.ids]);split at h
  .rename_i X s;rw[s]at E;obtain⟨W,T,p,g,C,y,I,Y⟩:=E;rw[J]at g;cases g;simp at h;obtain⟨r,z,rfl⟩:=h
   obtain⟨x,A,m⟩:=tV (w:=w) (U:=U) (ρ:=ρ) (b:=b) (o:=0) (vals:=λj=>p.toList.getD j undef) z
    (λj k=>by rw[ew];exact Tn y j (by rw[I.len]at k;simpa using k))
    (λj k=>Y _ (by
     rw[I.len]at k;simp_all))
    (λj c L=>I.rv j c _ L (by
     have k:j<p.toList.length:=by rw[<-I.len];exact(dc.1 L).1
     simp_all))
   rw[ew]at A;exact⟨r,x,rfl,by simp[Instr.loadAt,Instr.sureAddr,A],m⟩
  .simp at h
 .rename_i X H;cases S with
  |eptr _ _ b o p J Z q g z=>
  simp at h;obtain⟨r,u,rfl⟩:=h;obtain⟨x,A,m⟩:=tV (w:=w) (U:=U) (ρ:=ρ) u q g z;exact⟨r,x,rfl,by simp[Instr.loadAt,Instr.sureAddr,A],m⟩
 .rename_i id sz i H;cases S with
  |vptr _ _ _ _ b n c J=>
  have E:=F id (by simp[AV.ids]);split at h
  .rename_i e l s;rw[s]at E;obtain⟨a,c',g,hm,y⟩:=E;rw[J]at g;cases g;split at h
   .rename_i G;subst G;simp at h;obtain⟨O,r,z,rfl⟩:=h;rcases y with⟨rfl,_⟩|⟨W,T,B,M,L,Z,N,G,h0,u⟩
    .simp at O
    .cases M;have D:l[i]?.getD (zi e)=l[i]:=by simp[z6 O]
     rw[D]at z;have d:∀j,j<(zz e l[i]).length->∃v c,B[i*e.size+j]?=Q1 v/\(zz e l[i])[j]?=Q1 c/\Rv w U ρ c v:=by
      intro j k;obtain⟨v,g,C⟩:=u i O j _ (z6 k);exact⟨v,_,g,z6 k,C⟩
     obtain⟨x,A,m⟩:=tV (w:=w) (U:=U) (ρ:=ρ) (b:=b) (o:=i*e.size) (vals:=λj=>(B[i*e.size+j]?).getD undef) z
      (λj k=>by
       obtain⟨v,c,g,C,y⟩:=d j k;simp[World.cell?,N,g])
      (λj k=>by
       obtain⟨v,c,g,C,y⟩:=d j k;simp only[g,bT];exact fW _ _ _ _ _ C y)
      (λj c L=>by
       grind)
     exact⟨r,x,rfl,by simp[Instr.loadAt,Instr.sureAddr,A],m⟩
   .simp at h
  .simp at h
 .simp at h
theorem OQ{x:AV}(h:(IC P t n x).val=Q1 f)(y:Rv w U ρ x v):
  ∃r e,f={val:=r}/\(Instr.fieldAt t v n).run P w=.ok e w/\Rv w U ρ r e:=by
 unfold IC at h;split at h
 .rename_i p j;unfold A3 at j;split at j
  .rename_i E u;split at h
   .rename_i k C;have g:∀a:Addr,(fieldPlace a p).run P w=.ok (a.add p.offset) w:=by
     intro a;simp[fieldPlace,cX C]
    split at h
    .rename_i id l;cases y with
     |ptr _ _ b q=>
     simp at h;subst h;exact⟨_,_,rfl,by simp[Instr.fieldAt,bA u,j,Instr.sureAddr,g,Addr.add_none],.ptr id (l+p.offset) b q⟩
    .rename_i z l;cases y with
     |eptr _ _ b o s q B m A D=>
     simp at h;subst h;refine⟨_,_,rfl,by simp[Instr.fieldAt,bA u,j,Instr.sureAddr,g,Addr.add_none];rfl,?_⟩;rw[Nat.add_assoc];exact .eptr z (l+p.offset) b o s q B m A D
    .rename_i id sz i l;cases y with
     |vptr _ _ _ _ b d c q=>
     simp at h;subst h;refine⟨_,_,rfl,by simp[Instr.fieldAt,bA u,j,Instr.sureAddr,g,Addr.add_none];rfl,?_⟩;rw[Nat.add_assoc];exact .vptr id sz i (l+p.offset) b d c q
    .simp at h
   .simp at h
  .cases j
 .simp at h
theorem mr{i:Int}:zK i n=Q3↔0<=i/\i<n:=by simp[zK]
theorem QJ{i:Int}{g:Nat->AV}{e:fM}:∀(n x:Nat),(Tf i g x n).val=Q1 e->(x:Int)<=i->i<x+n->e={val:=g i.toNat}
 |0,_,h,_,_=>by simp[Tf]at h
 | 1,x,h,b,c=>by
  have:i.toNat=x:=by omega
  simp[Tf]at h;simp_all
 | n+2,x,h,b,c=>by
  rw[Tf,Tr.val]at h;split at h
  .simp_all
  .rename_i a;have a:i≠x:=by simpa using a
   exact QJ (n+1) (x+1) h ow ow
theorem C2{g:Nat->AO}{x ai:AV}{d:Value}(h:(qb P g t x ai).val=Q1 f)
  (M:Rv w U ρ x v) (hi:Rv w U ρ ai d) (S:∀id∈x.ids,bl w U ρ id (g id)):
  ∃r i,f={val:=r}/\(Instr.indexAt t v d).run P w=.ok i w/\Rv w U ρ r i:=by
 have H:∀(e:Sh)(l:List (Sem e))(k:Int)(X:IntKind)(m:TypeId),P.underlying t=Q1 (.slice m)->gh P m=Q1 e.size->0<=k->k<Io l->
   Rv w U ρ (.sl e l) v->∃i,(Instr.indexAt t v (.int X k)).run P w=.ok i w/\Rv w U ρ (.eptr (zz e (l.getD k.toNat (zi e))) 0) i:=by
  intro e l k X m D n z s C;cases C with
  |sl0 _ a c=>simp at s;omega
  | sl _ _ b o c q N hm E I p B=>
   have u:k.toNat<Io l:=by omega
   refine⟨.pointer (Q1 ⟨b,o+k.toNat*e.size+0,Q2⟩),?_,?_⟩
   .simp[Instr.indexAt,asIntOf,bA D,z,s,cX n,Addr.add_none]
   .have F:l.getD k.toNat (zi e)=l[k.toNat]:=by simp[List.getD,z6 u]
    rw[F]
    exact .eptr _ 0 b (o+k.toNat*e.size) (λj=>q k.toNat j) E I (λj J=>p _ _ u (by rwa [ag]at J))
     (λj J=>fW _ _ j _ _ (z6 J) (B _ u j _ (z6 J))) (λj c N=>B _ u j c N)
 unfold qb at h;split at h
 .rename_i X k;cases hi;split at h
  .rename_i m D;split at h
   .rename_i e l;split at h
    next n=>simp[mr]at h;simp_all
    .simp at h
   .rename_i id;have L:=S id (by simp[AV.ids]);split at h
    .rename_i e l A;rw[A]at L;split at h
     .rename_i n;simp[mr]at h;obtain⟨⟨z,s⟩,rfl⟩:=h;obtain⟨a,c',C,hm,h3⟩:=L;cases M with
      |vec _ _ W _=>
      rw[C]at W;cases W;rcases h3 with⟨rfl,_⟩|⟨Y,T,h2,rfl,N,I,h4,Z,h5,B⟩
      .simp at s;omega
      .refine⟨_,.pointer (Q1 ⟨Y,k.toNat*e.size+0,Q2⟩),rfl,?_,.vptr id e.size k.toNat 0 Y _ _ C⟩;simp[Instr.indexAt,asIntOf,bA D,z,s,cX n,Addr.add_none]
     .simp at h
    .rename_i e l A;rw[A]at L;split at h
     .rename_i n;simp[mr]at h;obtain⟨⟨z,s⟩,rfl⟩:=h;obtain⟨v',h7,h6⟩:=L;cases M with
      |vec _ _ W _=>
      simp_all
     .simp at h
    .simp at h
   .simp at h
  .rename_i h8 m D;split at h
   .rename_i sz n;split at h
    .rename_i id y;simp[mr]at h;obtain⟨⟨z,s⟩,rfl⟩:=h;cases M with
     |ptr _ _ b E=>
     refine⟨_,_,rfl,?_,.ptr id (y+k.toNat*sz) b E⟩;simp[Instr.indexAt,asIntOf,bA D,z,s,cX n,Addr.add_none,Instr.sureAddr]
    .rename_i cs y;simp only[Tr.val]at h;split at h;rotate_left
     .cases h
     rename_i O;obtain⟨z,s⟩:=mr.1 O;have h:=QJ _ _ h ow ow;subst h;cases M with
     |eptr _ _ b o q E I p G C=>
     refine⟨_,.pointer (Q1 ⟨b,o+(y+k.toNat*sz),Q2⟩),rfl,?_,.eptr cs (y+k.toNat*sz) b o q E I p G C⟩;simp[Instr.indexAt,asIntOf,bA D,z,s,cX n,Addr.add_none,Instr.sureAddr,Nat.add_assoc]
    .simp at h
   .simp at h
  .simp at h
 .simp at h
end
section
variable {P:Program} {w:World} {U:Nat->Prop} {ρ:Nat->Option Value}
variable {k:IntKind}{i:Int}
theorem T8(h:O5 k i=Q3):cZ k i:=by cases k<;>simp[O5]at h<;>simp[cZ,IntKind.min,IntKind.max,IntKind.signed,IntKind.bits]<;>omega
theorem QE(v:Value):Rv w U ρ (H6 v) v:=by
 unfold H6;split
 .exact .kb _
 .split
  next h=>exact .int _ _ (T8 h)
  .exact .any _
 .rename_i s;split
  .rename_i h;have:s=⟨s.data.toList.toArray⟩:=by cases s;simp
   have x:s.data.toList.length<=aI:=by unfold aI;omega
   have:=Rv.str (w:=w) (U:=U) (ρ:=ρ) s.data.toList x;simpa using this
  .exact .any _
 .exact .nils _
 .exact .nilp
 .exact .nilf
 .exact .ifcN
 .exact .any _
theorem zdC(v:Value):ztm v=v.oneCell':=by cases v<;>rfl
theorem qZ(v:Value):Rv w U ρ (wO v) v:=by
 unfold wO;split
 .rename_i b;split
  .rename_i h;have:=Rv.agg (w:=w) (U:=U) (ρ:=ρ) (b.toList.map H6) b.toList sw (λv a=>by
    rw[<-zdC];exact dQ.1 h v a) (λj c v d a=>by
    simp only[du,dt]at d;obtain⟨e,x,rfl⟩:=d;rw[a]at x;cases x;exact QE v)
   simpa using this
  .exact .any _
 .exact QE _
theorem mE(k:IntKind)(n:Int):cZ k (k.wrap n):=by cases k<;>simp[cZ,IntKind.min,IntKind.max,IntKind.signed,IntKind.bits,IntKind.wrap]<;>(try split)<;>omega
variable {x y:AV}{v:Value}
theorem DB{l:Bool}{z:AV}(h:rG l x y=Q1 z)(a:Rv w U ρ (ite l x y) v):Rv w U ρ z v:=by
  unfold rG at h;split at h
  all_goals first
    |(cases h;cases l<;>simp at a|-<;>cases a<;>first|exact .bool _|exact .str _ ‹_›)
    | (split at h
       · rename_i b;subst b;cases h;cases l<;>simp at a|-<;>exact a
       · cases h)
    |cases h
variable {t:TypeId}
theorem DM{j:List AV}{n:Nat}{r:AV}{s:List Value}(h:sV P t j n=Q1 r)
  (k:Io j=Io s) (g:∀v∈s,v.oneCell'=Q3) (p:∀(a:Nat)(c:AV)(v:Value),j[a]?=Q1 c->s[a]?=Q1 v->Rv w U ρ c v):
  ∃x,(part t s.toArray n).run P w=.ok x w/\Rv w U ρ r x:=by
 unfold sV at h;split at h
 .rename_i b e o;split at h
  .rename_i l;cases h;refine⟨.agg (s.toArray.extract n (n+b)),by simp[part,jX e,cX o],?_⟩;have i:s.toArray.extract n (n+b)=((s.drop n).take b).toArray:=by
    apply kg;simp[List.extract_eq_take_drop]
   rw[i];refine .agg _ _ (by simp[k]) (λv d=>g v (List.mem_of_mem_drop (List.mem_of_mem_take d))) (λa c v q d=>?_);grind
  .cases h
 next e=>have m:n<Io j:=(dc.1 h).1;have d:s[n]?=Q1 s[n]:=z6 ow;refine⟨s[n],?_,p _ _ _ h d⟩;simp[part,jX e,d]
 .cases h
theorem zd5(s:zH)(i:Nat)(h:i<Io s):(⟨s.toArray⟩:ByteArray)[i]?=Q1 (s.getD i 0):=by
 have x:i<(⟨s.toArray⟩:ByteArray).size:=by simpa[ByteArray.size]using h
 rw[getElem?_pos _ i x];simp[List.getD,z6 h];rfl
variable {d:Value}{f:fM}
theorem OR{ai:AV}(h:(ID P t x ai).val=Q1 f)
  (c:Rv w U ρ x v) (o:Rv w U ρ ai d):∃r a,f={val:=r}/\(Instr.index t v d).run P w=.ok a w/\Rv w U ρ r a:=by
 unfold ID at h;split at h
 .rename_i B k;cases o;split at h
  .rename_i s l;simp[mr]at h;obtain⟨⟨e,n⟩,rfl⟩:=h;cases c with
   |str _ A=>
   have g:k.toNat<Io s:=by omega
   refine⟨_,.int .u8 (s.getD k.toNat 0).toNat,rfl,?_,?_⟩
   .simp[Instr.index,asIntOf,bA l,e,zd5 s _ g]
   .rw[aY];refine .int _ _ ?_;have:=(s[k.toNat]?.getD 0).toNat_lt;simp[cZ,IntKind.min,IntKind.max,IntKind.signed,IntKind.bits];omega
  .rename_i y m z l;split at h
   .rename_i sz j;split at h
    .rename_i r q;simp[mr]at h;obtain⟨⟨e,n⟩,rfl⟩:=h;cases c with
     |agg _ C p b u=>
     obtain⟨a,c,i⟩:=DM (w:=w) (U:=U) (ρ:=ρ) q p b u;exact⟨r,a,rfl,by simp[Instr.index,asIntOf,bA l,e,n,cX j,c],i⟩
    .simp at h
   .simp at h
  .simp at h
 .simp at h
theorem He(n:Nat)(h:n<=aI):cZ .i64 (n:Int):=by unfold aI at h;simp[cZ,IntKind.min,IntKind.max,IntKind.signed,IntKind.bits];omega
theorem J2{z:Sh}{l:List (Sem z)}(g:Rv w U ρ (.sl z l) v):∃a c,v=.slice a (Io l) c/\Io l<=aI/\Io l<=c:=by
 cases g with
 |sl0 _ a c=>exact⟨a,c,rfl,sw,sw⟩
 |sl _ _ b o c x d e k j h i=>exact⟨_,_,rfl,e,d⟩
theorem EP(s:zH):(⟨s.toArray⟩:ByteArray).size=Io s:=by simp[ByteArray.size]
theorem WX{g:Nat->AO}{ty:TypeId}(h:(WW P g t x).val=Q1 f)(q:Rv w U ρ x v)
  (o:∀id∈x.ids,bl w U ρ id (g id)):
  ∃r b,f={val:=r}/\(Builtin.len_ #[t] ty #[v]).run P w=.ok b w/\Rv w U ρ r b:=by
 unfold WW at h;split at h
 .rename_i i;split at h
  .rename_i s;simp at h;subst h;cases q with
   |str _ H=>exact⟨_,.int .i64 (Io s),rfl,by simp[Builtin.len_,bA i,goInt,EP],.int _ _ (He _ H)⟩
  .simp at h
 .rename_i e0 i;split at h
  .simp at h;subst h;cases q;exact⟨_,_,rfl,by simp[Builtin.len_,bA i,goInt],.int _ _ (He 0 sw)⟩
  next e l=>simp at h;subst h;obtain⟨a,c,rfl,n,_⟩:=J2 q;exact⟨_,_,rfl,by simp[Builtin.len_,bA i,goInt],.int _ _ (He _ n)⟩
  .rename_i id;have j:=o id (by simp[AV.ids]);cases q with
   |vec _ _ k _=>
   split at h
   next e l d=>rw[d]at j;obtain⟨a,I,G,n,B⟩:=j;rw[G]at k;cases k;simp at h;subst h;exact⟨_,_,rfl,by simp[Builtin.len_,bA i,goInt],.int _ _ (He _ n)⟩
   next e l d=>rw[d]at j;obtain⟨O,p,z⟩:=j;rw[k]at p;cases p;obtain⟨a,c,rfl,n,_⟩:=J2 z;simp at h;subst h;exact⟨_,_,rfl,by simp[Builtin.len_,bA i,goInt],.int _ _ (He _ n)⟩
   .simp at h
  .simp at h
 .rename_i N J i;split at h
  .rename_i id;have j:=o id (by simp[AV.ids]);cases q with
   |mp _ _ k _=>
   split at h
   .rename_i u A d;rw[d]at j;obtain⟨r,m,y,D,L,B,E,M⟩:=j;rw[D]at k;cases k;simp at h;obtain⟨C,rfl⟩:=h;have F:m.size=Io A:=by have:=congrArg Io E;simpa using this
    exact⟨_,.int .i64 (Io A),rfl,by simp[Builtin.len_,bA i,goInt,gD B,F,Result.andThen],.int _ _ (He _ um)⟩
   .simp at h
  .simp at h
 .simp at h
variable {r:Bool}
theorem WU{d:Nat}{b:Value}(h:eqT P t x y=Q1 r)(c:Rv w U ρ x v)(e:Rv w U ρ y b):
  (Op.equalIn (d+1) t v b).run P w=.ok r w:=by
 unfold eqT at h;split at h
 .rename_i a;split at h
  next g=>subst g;cases h;cases c;cases e;exact run_equalIn_int w d t _ _ _ _ a
  .cases h
 next a=>cases h;cases c;cases e;rw[run_equalIn_string w d t _ _ a];simp
 all_goals first
  |(rename_i a;cases h;cases c;cases e;exact run_equalIn_bool w d t _ _ a)
  |cases h
theorem zcK(h:eqT P t x y=Q1 r):E7 P t=Q1 Q4:=by unfold eqT at h;split at h<;>simp_all[E7]
theorem Rj{d:Nat}:∀(k:List Field)(i:Nat)(m y:List AV)(r:Bool)(e g:Array Value),Fv P k i m y=Q1 r->
  (∀(j:Nat) c,m[j]?=Q1 c->∃v,e[i+j]?=Q1 v/\Rv w U ρ c v)->(∀(j:Nat) c,y[j]?=Q1 c->∃v,g[i+j]?=Q1 v/\Rv w U ρ c v)->
  (Op.eqFields (d+1) e g k).run P w=.ok r w
 | [],i,[],[],r,e,g,h,_,_=>by
  simp[Fv]at h;subst h;simp[Op.eqFields]
 | f :: k,i,a::m,b::y,r,e,g,h,hx,hy=>by
  simp only[Fv]at h;split at h
  .rename_i z;simp at z;obtain⟨B,C⟩:=z;split at h
   .rename_i F G u A;cases h;obtain⟨H,q,o⟩:=hx 0 a rfl;obtain⟨I,s,p⟩:=hy 0 b rfl;have x:∀(t:Array Value)(v:Value),t[i+0]?=Q1 v->(part f.type t f.offset).run P w=.ok v w:=by
     intro t v l;rw[pM]at l;simp[part,jX (zcK u),C,l]
    have E:=Rj (d:=d) k (i+1) m y G e g A (λj c n=>by
      obtain⟨v,l,D⟩:=hx (j+1) c n;grind)
     (λj c n=>by
      obtain⟨v,l,D⟩:=hy (j+1) c n;grind)
    simp only[Op.eqFields,ne_eq,B,not_false_eq_true,zh,cP,x e H q,x g I s,nc,WU u o p,Sem.run_ite,pO,E];cases F<;>simp
   .cases h
  .cases h
 |[],_,_::_,_,_,_,_,h,_,_=>by simp[Fv]at h
 |[],_,[],_::_,_,_,_,h,_,_=>by simp[Fv]at h
 |_::_,_,[],_,_,_,_,h,_,_=>by simp[Fv]at h
 |_::_,_,_::_,[],_,_,_,h,_,_=>by simp[Fv]at h
theorem OL(h:eqA P t x y=Q1 r)(i:Rv w U ρ x v)(l:Rv w U ρ y d)
  (u:∀k n T W,x=.int k n->y=.int T W->False) (z:∀s X,x=.str s->y=.str X->False):
  (Op.equal t v d).run P w=.ok r w/\(∀o p q,(eqGuard o t p q v d).run P w=.ok () w)/\((∃c a,v=.bool c/\d=.bool a)\/∃c a,v=.agg c/\d=.agg a):=by
 unfold eqA at h;split at h
 .rename_i G H;cases i with
  |agg _ F N Y O=>
  cases l with
  |agg _ g m J A=>
  split at h
  .rename_i B E;split at h
   .rename_i C;simp at C;obtain⟨S,M⟩:=C;refine⟨?_,λo p q=>run_eqGuard_agg w o t p q _ _ M,.inr ⟨_,_,rfl,rfl⟩⟩;have D:P.fieldsOf t=B:=by simp[Program.fieldsOf,E]
    show(Op.equalIn (9999+1) t _ _).run P w=_;rw[run_equalIn_struct w 9999 t _ _ (by rw[D];exact E) S,D];refine Rj (U:=U) (ρ:=ρ) (d:=9998) B.toList 0 G H r _ _ h (λj c e=>?_) (λj c e=>?_)
    .have b:j<Io F:=by rw[<-N];exact(dc.1 e).1
     exact⟨F[j],by simp[z6 b],O j c _ e (z6 b)⟩
    .have b:j<Io g:=by rw[<-m];exact(dc.1 e).1
     exact⟨g[j],by simp[z6 b],A j c _ e (z6 b)⟩
   .cases h
  .cases h
 .have I:=h;unfold eqT at h;split at h
  .exact zC (u _ _ _ _ rfl rfl) id
  .exact zC (z _ _ rfl rfl) id
  all_goals first
   |(cases h;have L:=WU (d:=9999) I i l;cases i;cases l;exact⟨L,λo p q=>by cases o<;>simp[eqGuard],.inl ⟨_,_,rfl,rfl⟩⟩)
   |cases h
variable {o:BinOp}
theorem zb6(p q:Operand)(h:(zjB P o t x y).val=Q1 f)(m:Rv w U ρ x v)(u:Rv w U ρ y d)
  (b:∀k n A B,x=.int k n->y=.int A B->False) (e:∀s C,x=.str s->y=.str C->False):
  ∃r z,f={val:=r}/\(do eqGuard o t p q v d;binOp o t v d:Go.Sem Value).run P w=.ok z w/\Rv w U ρ r z:=by
 unfold zjB at h;split at h
 .split at h
  next r l=>simp at h;subst h;obtain⟨g,i,j⟩:=OL l m u b e;refine⟨_,.bool r,rfl,?_,.bool r⟩;rw[cP,i];rcases j with⟨c,a,rfl,rfl⟩|⟨c,a,rfl,rfl⟩<;>simp[binOp,g]
  .simp at h
 .split at h
  next r l=>simp at h;subst h;obtain⟨g,i,j⟩:=OL l m u b e;refine⟨_,.bool (!r),rfl,?_,.bool (!r)⟩;rw[cP,i];rcases j with⟨c,a,rfl,rfl⟩|⟨c,a,rfl,rfl⟩<;>simp[binOp,g]
  .simp at h
 .simp at h
variable {A:Int}
theorem SP(x:cZ k i)(a:cZ k A)(b:A≠0):k.wrap (i.tmod A)=i.tmod A:=by
 have c:=Int.tmod_lt_of_pos;have:(i.tmod A).natAbs<A.natAbs:=by
  rw[Int.natAbs_tmod];exact Nat.mod_lt _ ow
 have d:0<=i->0<=i.tmod A:=λh=>Int.tmod_nonneg A h
 cases k<;>simp[cZ,IntKind.min,IntKind.max,IntKind.signed,IntKind.bits]at x a<;>simp[IntKind.wrap,IntKind.signed,IntKind.bits]<;>(try split)<;>omega
theorem zcY(h:cZ k i):cZ k (i/2):=by obtain⟨x,a⟩:=h;cases k<;>(simp only[cZ,IntKind.min,IntKind.max,IntKind.signed,IntKind.bits]at x a|-;simp at x a|-;omega)
theorem zb7(p q:Operand)(h:(zjC o k i A).val=Q1 f)(b:cZ k i)(c:cZ k A):
  ∃r z,f={val:=r}/\(do eqGuard o t p q (.int k i) (.int k A);binOp o t (.int k i) (.int k A):Go.Sem Value).run P w=.ok z w/\Rv w U ρ r z:=by
 have x:∀o,(eqGuard o t p q (.int k i) (.int k A)).run P w=.ok () w:=by intro o;cases o<;>simp[eqGuard]
 unfold zjC at h;split at h
 .simp at h;subst h;exact⟨_,_,rfl,by rw[cP,x];simp[binOp,Op.intArith],.int _ _ (mE _ _)⟩
 .simp at h;subst h;exact⟨_,_,rfl,by rw[cP,x];simp[binOp,Op.intArith],.int _ _ (mE _ _)⟩
 .simp at h;subst h;exact⟨_,_,rfl,by rw[cP,x];simp[binOp,Op.intArith],.int _ _ (mE _ _)⟩
 .simp at h;obtain⟨a,rfl⟩:=h;exact⟨_,_,rfl,by rw[cP,x];simp[binOp,Op.intDiv,a],.int _ _ (mE _ _)⟩
 .simp at h;obtain⟨a,rfl⟩:=h;refine⟨_,.int k (i.tmod A),rfl,by rw[cP,x];simp[binOp,Op.intDiv,a],?_⟩;rw[SP b c a];exact .int _ _ (by rw[<-SP b c a];exact mE _ _)
 .simp at h;obtain⟨a,rfl⟩:=h;subst a;refine⟨_,.int k (i/2),rfl,?_,.int _ _ (zcY b)⟩;have e:min 1 k.bits=1:=by cases k<;>rfl
  have d:i.fdiv 2=i/2:=by rw[Int.fdiv_eq_ediv_of_nonneg];omega
  rw[cP,x];simp[binOp,Op.shift,e,d]
 .simp at h;subst h;exact⟨_,_,rfl,by rw[cP,x];simp[binOp,Op.intBits],.int _ _ (mE _ _)⟩
 all_goals first
  |(simp at h;subst h;exact⟨_,_,rfl,by rw[cP,x];simp[binOp,Op.intCmp],.bool _⟩)
  |simp at h
theorem P4(a b:zH):(⟨a.toArray⟩:ByteArray)++⟨b.toArray⟩=⟨(a++b).toArray⟩:=by apply ByteArray.ext;simp
theorem zb8{a b:zH}(p q:Operand)(h:(zjD o a b).val=Q1 f):
  ∃r z,f={val:=r}/\(do eqGuard o t p q (.string ⟨a.toArray⟩) (.string ⟨b.toArray⟩);binOp o t (.string ⟨a.toArray⟩) (.string ⟨b.toArray⟩):Go.Sem Value).run P w=.ok z w/\Rv w U ρ r z:=by
 have x:∀o,(eqGuard o t p q (.string ⟨a.toArray⟩) (.string ⟨b.toArray⟩)).run P w=.ok () w:=by intro o;cases o<;>simp[eqGuard]
 unfold zjD at h;split at h
 .simp at h;obtain⟨c,rfl⟩:=h;refine⟨_,.string ⟨(a++b).toArray⟩,rfl,?_,.str _ (by unfold aI;simp;omega)⟩;rw[cP,x];simp[binOp,Op.stringOp,EP,P4];omega
 all_goals first
  |(simp at h;subst h;exact⟨_,_,rfl,by rw[cP,x];simp[binOp,Op.stringOp],.bool _⟩)
  |simp at h
theorem zd2{b:IntKind}(p q:Operand)(h:(zmd o k i A).val=Q1 f)(a:cZ k i):
  ∃r z,f={val:=r}/\(do eqGuard o t p q (.int k i) (.int b A);binOp o t (.int k i) (.int b A):Go.Sem Value).run P w=.ok z w/\Rv w U ρ r z:=by
 unfold zmd at h;split at h
 .simp at h;obtain⟨d,rfl⟩:=h;refine⟨_,_,rfl,by simp[eqGuard,binOp,Op.shift,show¬A<0 by omega],.int _ _ ?_⟩;generalize min A.toNat k.bits=n;have x:(0:Int)<2^n:=Int.pow_pos (by decide);generalize(2:Int)^n=c at x;rw[Int.fdiv_eq_ediv_of_nonneg _ ow];have l:min 0 i<=i/c:=by
   rcases Int.le_total 0 i with q|q
   .have:=Int.ediv_nonneg q (Int.le_of_lt x);omega
   .have e:i*c<=i*1:=Int.mul_le_mul_of_nonpos_left q ow;have:=(Int.le_ediv_iff_mul_le x).2 (by simpa using e);omega
  have g:i/c<=max 0 i:=by
   rcases Int.le_total 0 i with q|q
   .have:=Int.ediv_le_self c q;omega
   .have:=Int.ediv_nonpos_of_nonpos_of_neg q x;omega
  have d:k.min<=0/\0<=k.max:=by cases k<;>decide
  exact⟨by have:=a.1;omega,by have:=a.2;omega⟩
 .simp at h
theorem zb5(p q:Operand)(h:(zjA P o t x y).val=Q1 f)(a:Rv w U ρ x v)(b:Rv w U ρ y d):
  ∃r z,f={val:=r}/\(do eqGuard o t p q v d;binOp o t v d:Go.Sem Value).run P w=.ok z w/\Rv w U ρ r z:=by
 unfold zjA at h;split at h
 .split at h
  .rename_i m;subst m;cases a with
   |int _ _ g=>
   cases b with
   |int _ _ l=>exact zb7 p q h g l
  .cases a with
   |int _ _ g=>
   cases b with
   |int _ _ l=>exact zd2 p q h g
 .cases a;cases b;exact zb8 p q h
 next i j=>exact zb6 p q h a b (λk n u A e c=>i k n u A e c) (λs B e c=>j s B e c)
def pe(h:List Value)(o:Nat):List Value->List Value
 |[]=>h
 |v::r=>pe (h.set o v) (o+1) r
theorem ir:∀(r h:List Value)(o:Nat),(pe h o r).length=Io h
 |[],_,_=>rfl
 |v::r,h,o=>by simp[pe,ir r]
theorem pz:∀(r c:List AV)(o:Nat),(setCells c o r).length=Io c
 |[],_,_=>rfl
 |v::r,c,o=>by simp[setCells,pz r]
theorem BH:∀(r:List AV)(d:List Value)(b:List AV)(e:List Value)(o:Nat),dg w U ρ b e->dg w U ρ r d->dg w U ρ (setCells b o r) (pe e o d)
 |[],[],b,e,o,h,_=>h
 |[],_::_,_,_,_,_,h=>by have:=h.len;simp at this
 |_::_,[],_,_,_,_,h=>by have:=h.len;simp at this
 | c::r,v::d,b,e,o,h,h'=>by
  refine BH r d _ _ (o+1) ⟨by simp[h.len],λj g k x a=>?_⟩ ⟨by have:=h'.len;simpa using this,λj g k x a=>h'.rv (j+1) g k x a⟩;rw[na]at x a;by_cases l:o=j
  .simp only[l,zh]at x a;split at x
   next i=>rw[ze (by rw[<-h.len];exact i)]at a;cases x;cases a;exact h'.rv 0 _ _ rfl rfl
   .cases x
  .rw[zg l]at x a;exact h.rv j g k x a
theorem EL:∀(a b:List Value)(o:Nat),(∀v∈b,v.oneCell'=Q3)->(∀v∈a,v.oneCell'=Q3)->∀v∈pe b o a,v.oneCell'=Q3
 |[],_,_,h,_=>h
 | v::a,b,o,h,h'=>EL a _ _ (fun x c=>by
   grind) (λx c=>h' x (by simp[c]))
theorem Dd(c:List Value):∀(l:List Value)(k:Nat)(o:Nat),(l.zipIdx k).foldl (λ(c:Array Value)(p:Value×Nat)=>c.setIfInBounds (o+p.2) p.1) c.toArray=(pe c (o+k) l).toArray
 |[],_,_=>rfl
 | v::l,k,o=>by
  simp only[List.zipIdx_cons,List.foldl_cons,pe];have:=Dd (c.set (o+k) v) l (k+1) o;grind
theorem C6{a:Nat->Option (Nat×Nat)}:∀(p:List (Nat×AV))(x:List (Nat×Value))(l:List AV)(b:List Value)(r:List AV),
  GX a l p=Q1 r->dg w U ρ l b->(∀v∈b,v.oneCell'=Q3)->p.map (·.1)=x.map (·.1)->dg w U ρ (p.map (·.2)) (x.map (·.2))->
  ∃k,Instr.fill a b.toArray x=Q1 k/\dg w U ρ r k.toList/\∀v∈k.toList,v.oneCell'=Q3
 | [],[],l,b,r,h,n,q,_,_=>by
  simp[GX]at h;subst h;exact⟨b.toArray,by simp[Instr.fill],by simpa using n,by simpa using q⟩
 |[],_::_,_,_,_,_,_,_,h,_=>by simp at h
 |_::_,[],_,_,_,_,_,_,h,_=>by simp at h
 | (i,c)::p,(i',v)::x,l,b,r,h,n,q,m,hp=>by
  simp at m;obtain⟨rfl,m⟩:=m;simp only[GX]at h;split at h
  .rename_i o z B u s;split at h
   .rename_i y;obtain⟨G,H⟩:=y;obtain⟨d,e⟩:=ia (w:=w) (U:=U) (ρ:=ρ) s (hp.rv 0 c v rfl rfl)
    obtain⟨k,C,D,E⟩:=C6 p x _ (pe b o v.cells.toList) r h (BH _ _ _ _ _ n d) (EL _ _ _ q e) m
     ⟨by have:=hp.len;simpa using this,λj A J F I=>hp.rv (j+1) A J F I⟩
    refine⟨k,?_,D,E⟩;have g:=d.len;simp only[Array.length_toList]at g;have t:=n.len;simp only[Instr.fill,u];rw[zg sg];have:=Dd b v.cells.toList 0 o;rw[pM]at this;rw[<-C,<-this];congr 1;rw[<-Array.foldl_toList,Array.toList_zipIdx]
   .cases h
  .cases h
theorem DO:∀(x:List Field)(p:List (Nat×Nat)),vC P x=Q1 p->(x.mapM λf=>do pure (f.offset,<-Go.sizeOf f.type):Go.Sem (List (Nat×Nat))).run P w=.ok p w
 |[],p,h=>by simp[vC]at h;subst h;simp
 | f::r,p,h=>by
  simp only[vC]at h;split at h
  next n l b a=>cases h;have:=DO r l a;simp only[List.mapM_cons,cP,cX b,nc,pO,this]
  .cases h
theorem To{p:List (Nat×AV)}{vparts:List (Nat×Value)}{r:AV}(h:Of P t p=Q1 r)
  (E:p.map (·.1)=vparts.map (·.1)) (F:dg w U ρ (p.map (·.2)) (vparts.map (·.2))):
  ∃x,(Instr.build t vparts.toArray).run P w=.ok x w/\Rv w U ρ r x:=by
 have b:∀a,td P t=Q1 (.agg a)->∃z:Value,(zeroValue t).run P w=.ok z w/\dg w U ρ a z.cells.toList/\∀v∈z.cells.toList,v.oneCell'=Q3:=by
  intro a g;unfold td at g;split at g
  next i j=>simp only[dt]at g;obtain⟨z,d,e⟩:=g;have G:=qZ (w:=w) (U:=U) (ρ:=ρ) z;rw[e]at G;have:=ia (w:=w) (U:=U) (ρ:=ρ) (av:=.agg a) rfl G;exact⟨z,by simp[zeroValue,typeInfo,j,d],this.1,this.2⟩
  .cases g
 unfold Of at h;split at h
 .rename_i a D g y;split at h
  .rename_i A u;simp only[dt]at h;obtain⟨B,h,rfl⟩:=h;obtain⟨z,d,e,k⟩:=b a g;obtain⟨l,m,o,s⟩:=C6 p vparts _ _ _ h e k E F;refine⟨.agg l,?_,?_⟩
   .simp only[QI]at m;have H:=DO (w:=w) D.toList A u;have c:(D.mapM λf=>do pure (f.offset,<-Go.sizeOf f.type):Go.Sem (Array (Nat×Nat))).run P w=.ok A.toArray w:=by
     rw[Array.mapM_eq_mapM_toList,Sem.run_map,H];rfl
    have q:Instr.fill (λx=>A.toArray[x]?) z.cells vparts=Q1 l:=by simpa using m
    simp only[Instr.build,cP,d,nc,bA y,c,q,pO]
   .have:=Rv.agg (w:=w) (U:=U) (ρ:=ρ) B l.toList o.len s o.rv;simpa using this
  .cases h
 .rename_i a J C g y;split at h
  .rename_i n I;simp only[dt]at h;obtain⟨B,h,rfl⟩:=h;obtain⟨z,d,e,k⟩:=b a g;obtain⟨l,m,o,s⟩:=C6 p vparts _ _ _ h e k E F;refine⟨.agg l,?_,?_⟩
   .simp only[QI]at m;simp[Instr.build,d,bA y,cX I,m]
   .have:=Rv.agg (w:=w) (U:=U) (ρ:=ρ) B l.toList o.len s o.rv;simpa using this
  .cases h
 .cases h
end
end Cad
