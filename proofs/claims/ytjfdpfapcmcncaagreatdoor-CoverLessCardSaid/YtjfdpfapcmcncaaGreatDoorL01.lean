/- The abstract machine: definitions alone. What abstract values say of the model's values, and what stays as memory grows. -/
import GoSem.Step
import Derived.KernelRfl
import Derived.WalkKit
import Derived.Deep.AppendSrc
import Derived.Laws.IdiomCopy
import Derived.MapKept
import Derived.Laws.StructEq
namespace Cad
open Go
open Bool renaming false→Q4,true→Q3
open Option renaming none→Q2,some→Q1
open Decidable renaming decide→Q0
abbrev _root_.Prod.q{α β γ:Type}(x:α×β×γ):γ:=x.2.2
abbrev _root_.Prod.t{α β γ δ ε:Type}(x:α×β×γ×δ×ε):ε:=x.2.2.2.2
theorem _root_.And.q{a b c:Prop}(h:a/\b/\c):c:=h.2.2
theorem _root_.And.t{a b c d e:Prop}(h:a/\b/\c/\d/\e):e:=h.2.2.2.2
theorem ow{p:Prop}(h:p:=by omega):p:=h
theorem sw{p:Prop}(h:p:=by simp):p:=h
theorem sg{p:Prop}(h:p:=by simp;omega):p:=h
theorem kw{p:Prop}(h:p:=by kernel_rfl):p:=h
theorem Jj{p:Prop}(h:p:=by rfl):p:=h
@[match_pattern] abbrev Jh:List UInt8:=[100,101,108,101,116,101]
@[match_pattern] abbrev EB:List UInt8:=[100,114,111,112]
@[match_pattern] abbrev nA:List UInt8:=[103,114,111,117,112]
@[match_pattern] abbrev G7:List UInt8:=[105,110,115,101,114,116]
@[match_pattern] abbrev gK:List UInt8:=[106,111,105,110]
@[match_pattern] abbrev mH:List UInt8:=[108,105,116]
@[match_pattern] abbrev mI:List UInt8:=[110,111,116]
@[match_pattern] abbrev oP:List UInt8:=[110,117,108,108]
@[match_pattern] abbrev uw:List UInt8:=[111,114]
@[match_pattern] abbrev On:List UInt8:=[114,101,97,100]
@[match_pattern] abbrev py:List UInt8:=[115,101,108,101,99,116]
@[match_pattern] abbrev Ai:List UInt8:=[117,110,114,101,97,100]
@[match_pattern] abbrev BN:List UInt8:=[117,110,119,114,105,116,101]
@[match_pattern] abbrev o6:List UInt8:=[117,112,100,97,116,101]
@[match_pattern] abbrev wJ:List UInt8:=[119,114,105,116,101]
@[match_pattern] abbrev Aj:List UInt8:=[32,40,32]
@[match_pattern] abbrev zeX:List UInt8:=[32,41,32]
@[match_pattern] abbrev iC:List UInt8:=[32,41]
@[match_pattern] abbrev zrQ:List UInt8:=[32,44,32,75,69,89,32,40,32]
@[match_pattern] abbrev zeY:List UInt8:=[32,44,32,82,69,70,69,82,69,78,67,69,83,32,40,32]
@[match_pattern] abbrev zeZ:List UInt8:=[32,44,32,85,78,73,81,85,69,32,40,32]
@[match_pattern] abbrev eZ:List UInt8:=[32,44,32]
@[match_pattern] abbrev ze0:List UInt8:=[32,61,32]
@[match_pattern] abbrev Mk:List UInt8:=[32,65,78,68,32]
@[match_pattern] abbrev Qs:List UInt8:=[32,66,89,32]
@[match_pattern] abbrev YC:List UInt8:=[32,67,72,69,67,75,32,40,32]
@[match_pattern] abbrev kP:List UInt8:=[32,70,82,79,77,32]
@[match_pattern] abbrev BO:List UInt8:=[32,73,83,32,78,85,76,76,41]
@[match_pattern] abbrev ze1:List UInt8:=[32,78,79,84,32,78,85,76,76]
@[match_pattern] abbrev Ak:List UInt8:=[32,79,78,32]
@[match_pattern] abbrev Ml:List UInt8:=[32,79,82,32]
@[match_pattern] abbrev YD:List UInt8:=[32,83,69,84,32]
@[match_pattern] abbrev Qt:List UInt8:=[32,83,85,77,32]
@[match_pattern] abbrev Mm:List UInt8:=[32,84,79,32]
@[match_pattern] abbrev YE:List UInt8:=[32,86,65,76,85,69,83,32,40,32]
@[match_pattern] abbrev YF:List UInt8:=[32,87,72,69,82,69,32]
@[match_pattern] abbrev nI:List UInt8:=[39,39]
@[match_pattern] abbrev ze2:List UInt8:=[40,41,44,61,60,43,45,42]
@[match_pattern] abbrev uu:List UInt8:=[40,78,79,84,32]
@[match_pattern] abbrev SU:List UInt8:=[65,78,68]
@[match_pattern] abbrev BP:List UInt8:=[66,79,79,76]
@[match_pattern] abbrev EC:List UInt8:=[66,89]
@[match_pattern] abbrev JJ:List UInt8:=[67,72,69,67,75,32,40,32]
@[match_pattern] abbrev iv:List UInt8:=[67,72,69,67,75]
@[match_pattern] abbrev Qu:List UInt8:=[67,79,80,89]
@[match_pattern] abbrev YG:List UInt8:=[67,82,69,65,84,69,32,84,65,66,76,69,32]
@[match_pattern] abbrev YH:List UInt8:=[67,82,69,65,84,69]
@[match_pattern] abbrev YI:List UInt8:=[68,69,76,69,84,69,32,70,82,79,77,32]
@[match_pattern] abbrev YJ:List UInt8:=[68,69,76,69,84,69]
@[match_pattern] abbrev YK:List UInt8:=[68,82,79,80,32,84,65,66,76,69,32]
@[match_pattern] abbrev YL:List UInt8:=[68,82,79,80]
@[match_pattern] abbrev G8:List UInt8:=[70,65,76,83,69]
@[match_pattern] abbrev uv:List UInt8:=[70,82,79,77]
@[match_pattern] abbrev zj3:List UInt8:=[71,82,65,78,84,32,82,69,65,68,32,79,78,32]
@[match_pattern] abbrev zj4:List UInt8:=[71,82,65,78,84,32,87,82,73,84,69,32,79,78,32]
@[match_pattern] abbrev ze3:List UInt8:=[71,82,65,78,84,32]
@[match_pattern] abbrev YM:List UInt8:=[71,82,65,78,84]
@[match_pattern] abbrev Qv:List UInt8:=[71,82,79,85,80]
@[match_pattern] abbrev SV:List UInt8:=[73,78,83,69,82,84,32,73,78,84,79,32]
@[match_pattern] abbrev YN:List UInt8:=[73,78,83,69,82,84]
@[match_pattern] abbrev YO:List UInt8:=[73,78,84,79]
@[match_pattern] abbrev BQ:List UInt8:=[73,78,84]
@[match_pattern] abbrev Qw:List UInt8:=[74,79,73,78]
@[match_pattern] abbrev ze4:List UInt8:=[75,69,89,32,40,32]
@[match_pattern] abbrev SW:List UInt8:=[77,73,71,82,65,84,69,32,67,79,80,89,32]
@[match_pattern] abbrev ze5:List UInt8:=[77,73,71,82,65,84,69,32,71,82,79,85,80,32]
@[match_pattern] abbrev ze6:List UInt8:=[77,73,71,82,65,84,69,32,74,79,73,78,32]
@[match_pattern] abbrev SX:List UInt8:=[77,73,71,82,65,84,69,32]
@[match_pattern] abbrev YP:List UInt8:=[77,73,71,82,65,84,69]
@[match_pattern] abbrev ED:List UInt8:=[78,85,76,76]
@[match_pattern] abbrev EE:List UInt8:=[79,78]
@[match_pattern] abbrev Qx:List UInt8:=[82,69,65,68]
@[match_pattern] abbrev zj5:List UInt8:=[82,69,70,69,82,69,78,67,69,83]
@[match_pattern] abbrev zj6:List UInt8:=[82,69,86,79,75,69,32,82,69,65,68,32,79,78,32]
@[match_pattern] abbrev zj7:List UInt8:=[82,69,86,79,75,69,32,87,82,73,84,69,32,79,78,32]
@[match_pattern] abbrev ze7:List UInt8:=[82,69,86,79,75,69,32]
@[match_pattern] abbrev YQ:List UInt8:=[82,69,86,79,75,69]
@[match_pattern] abbrev zj8:List UInt8:=[83,69,76,69,67,84,32,42,32,70,82,79,77,32,118,32,87,72,69,82,69,32]
@[match_pattern] abbrev YR:List UInt8:=[83,69,76,69,67,84,32,42,32,70,82,79,77,32]
@[match_pattern] abbrev YS:List UInt8:=[83,69,76,69,67,84]
@[match_pattern] abbrev EF:List UInt8:=[83,85,77]
@[match_pattern] abbrev YT:List UInt8:=[84,65,66,76,69]
@[match_pattern] abbrev BR:List UInt8:=[84,69,88,84]
@[match_pattern] abbrev G9:List UInt8:=[84,82,85,69]
@[match_pattern] abbrev SY:List UInt8:=[85,80,68,65,84,69,32]
@[match_pattern] abbrev YU:List UInt8:=[85,80,68,65,84,69]
@[match_pattern] abbrev YV:List UInt8:=[86,65,76,85,69,83]
@[match_pattern] abbrev gD:List UInt8:=[87,72,69,82,69]
@[match_pattern] abbrev cY:List UInt8:=[97,110,100]
@[match_pattern] abbrev ee:List UInt8:=[99,111,108]
@[match_pattern] abbrev dv:List UInt8:=[99,111,112,121]
@[match_pattern] abbrev mJ:List UInt8:=[99,114,101,97,116,101]
abbrev zB:=List UInt8
abbrev Ah:=@List.eq_nil_of_length_eq_zero
abbrev o5:=@Array.getD_eq_getD_getElem?
abbrev dU:=@Array.getElem?_eq_some_iff
abbrev ba:=@List.getD_eq_getElem?_getD
abbrev nG:=@List.getElem?_append_right
abbrev td:=@Array.getElem?_eq_getElem
abbrev te:=@Classical.byContradiction
abbrev fH:=@List.drop_eq_getElem_cons
abbrev mG:=@List.getElem?_append_left
abbrev dh:=@List.getElem?_eq_some_iff
abbrev zG:=@Bool.eq_false_or_eq_true
abbrev zQ:=@List.getElem?_eq_getElem
abbrev gm:=@Option.bind_eq_some_iff
abbrev BC:=@List.drop_eq_nil_of_le
abbrev Of:=@List.take_of_length_le
abbrev kM:=@MapKept.run_getObj_map
abbrev yl:=@MapKept.run_setObj_map
abbrev eD:=@Option.map_eq_some_iff
abbrev BD:=@World.frozen?_of_block
abbrev uj:=@Array.getElem?_modify
abbrev sA:=@Array.getElem?_toList
abbrev E7:=@List.contains_iff_mem
abbrev fy:=@List.getElem?_eq_none
abbrev Og:=@Array.toArray_toList
abbrev sB:=@List.mem_cons_of_mem
abbrev pl:=@List.mem_of_getElem?
abbrev JD:=@MapKept.run_checkKey
abbrev g7:=@Nat.mul_le_mul_right
abbrev E8:=@Nat.pow_le_pow_right
abbrev BE:=@List.getD_cons_succ
abbrev ym:=@List.getElem?_range
abbrev g8:=@List.getElem_of_mem
abbrev JE:=@MapKept.run_findKey
abbrev bX:=@beq_eq_false_iff_ne
abbrev zF:=@Bool.false_eq_true
abbrev E9:=@List.getElem?_drop
abbrev j9:=@List.length_append
abbrev yn:=@List.mem_cons_self
abbrev gn:=@List.mem_singleton
abbrev ia:=@Nat.lt_of_lt_of_le
abbrev Fa:=@Option.isSome_some
abbrev yo:=@Bool.not_eq_true'
abbrev uk:=@Function.comp_def
abbrev BF:=@Int.lt_trichotomy
abbrev aK:=@Int.toNat_natCast
abbrev BG:=@List.append_assoc
abbrev Fb:=@List.ext_getElem?
abbrev fA:=@List.getElem?_map
abbrev yp:=@List.getElem?_set
abbrev yq:=@Nat.succ_le_of_lt
abbrev bB:=@Option.some.injEq
abbrev pm:=@Result.andThen_ok
abbrev jG:=@bne_self_eq_false
abbrev aO:=@decide_eq_true_eq
abbrev lM:=@of_decide_eq_true
abbrev aE:=@Bool.and_eq_true
abbrev ib:=@Bool.not_eq_true
abbrev gp:=@IntKind.wrap_i64
abbrev ei:=@List.all_eq_true
abbrev jH:=@List.drop_length
abbrev bG:=@List.getElem_mem
abbrev eE:=@List.length_cons
abbrev pn:=@List.length_take
abbrev lN:=@List.take_length
abbrev BH:=@MapKept.heap_set
abbrev Fc:=@Nat.min_eq_right
abbrev dp:=@Option.getD_some
abbrev iY:=@Bool.eq_iff_iff
abbrev mE:=@Bool.or_eq_true
abbrev ul:=@Int.natCast_add
abbrev yr:=@List.append_nil
abbrev di:=@List.length_map
abbrev jI:=@List.length_nil
abbrev iA:=@List.map_append
abbrev cQ:=@List.mem_append
abbrev po:=@List.nil_append
abbrev Fd:=@Nat.min_eq_left
abbrev yu:=@Option.map_some
abbrev ao:=@decide_eq_false
abbrev cX:=@Bool.not_false
abbrev mF:=@Comes.of_steps
abbrev Fe:=@List.drop_drop
abbrev pp:=@List.mem_range
abbrev Ff:=@Nat.mul_le_mul
abbrev zu:=@decide_eq_true
abbrev bz:=@run_underlying
abbrev yv:=@Bool.and_self
abbrev bS:=@Bool.not_true
abbrev dO:=@Bool.true_and
abbrev kc:=@List.map_cons
abbrev cr:=@List.mem_cons
abbrev cB:=@Prod.mk.injEq
abbrev pq:=@List.map_map
abbrev bn:=@List.mem_map
abbrev oO:=@Nat.add_comm
abbrev yw:=@Nat.add_zero
abbrev cC:=@Nat.le_trans
abbrev BI:=@Nat.pow_succ
abbrev kN:=@Nat.succ_mul
abbrev jJ:=@Nat.zero_add
abbrev cF:=@Sem.run_bind
abbrev pk:=@Sem.run_pure
abbrev nF:=@Nat.add_mul
abbrev ae:=@Nat.le_refl
abbrev aY:=@Nat.zero_le
abbrev ml:=@Array.ext'
abbrev aZ:=@beq_iff_eq
abbrev aq:=@cond_false
abbrev zZ:=@cond_true
abbrev bI:=@eq_of_beq
inductive ze where
 |mk (op:zB) (v:Int×Int×zB) (s:zB) (l:List ze)
def ze.op:ze->zB
 |.mk o _ _ _=>o
def ze.v:ze->Int×Int×zB
 |.mk _ v _ _=>v
def ze.s:ze->zB
 |.mk _ _ s _=>s
def ze.l:ze->List ze
 |.mk _ _ _ l=>l
inductive Sh where
 |unit
 |bool
 |int (k:IntKind)
 |str
 |sl (e:Sh)
 |pr (a b:Sh)
 |expr
 deriving DecidableEq
@[reducible] def Sem:Sh->Type
 |.unit=>Unit
 |.bool=>Bool
 |.int _=>Int
 |.str=>zB
 |.sl e=>List (Sem e)
 |.pr a b=>Sem a×Sem b
 |.expr=>ze
def zj:(s:Sh)->Sem s
 |.unit=>()
 |.bool=>Q4
 |.int _=>(0:Int)
 |.str=>([]:zB)
 |.sl e=>([]:List (Sem e))
 |.pr a b=>(zj a,zj b)
 |.expr=>ze.mk [] (0,0,[]) [] []
def Sh.size:Sh->Nat
 |.unit=>0
 |.pr a b=>a.size+b.size
 |.expr=>6
 |_=>1
inductive AV where
 |any
 |kb (b:Bool)
 |bool (b:Bool)
 |int (k:IntKind) (n:Int)
 |str (s:zB)
 |nils
 |sl (e:Sh) (l:List (Sem e))
 |vec (id:Nat)
 |ptr (id off:Nat)
 |vptr (id sz i off:Nat)
 |eptr (cells:List AV) (off:Nat)
 |nilp
 |agg (cells:List AV)
 |tup (vs:List AV)
 |clo (fn:Fn) (first caps:List AV)
 |nilf
 |mp (id:Nat)
 |ifc (aQ:Bool)
 |tab (k:IntKind) (zs:List Int)
 |gint
@[match_pattern] abbrev ai (n:Int):AV:=.int .i64 n
abbrev ny:AV:=.any
def zq:(s:Sh)->Sem s->List AV
 |.unit,_=>[]
 |.bool,b=>[.bool b]
 |.int k,n=>[.int k n]
 |.str,s=>[.str s]
 |.sl e,l=>[.sl e l]
 |.pr a b,x=>zq a x.1++zq b x.2
 |.expr,e=>[.str e.op,.int .i64 e.v.1,.int .i64 e.v.2.1,.str e.v.2.2,.str e.s,.sl .expr e.l]
inductive AO where
 |dead
 |box (cells:List AV)
 |vec (e:Sh) (l:List (Sem e))
 |frz (e:Sh) (l:List (Sem e))
 |fmap (es:List (zB×AV))
 |vmap (u:Bool) (es:List ((Int×Int×zB)×Int))
inductive Tr (α:Type) where
 |err
 |chk (c:Bool) (t:Tr α)
 |br (c:Bool) (t f:Tr α)
 |ok (a:α)
def Tr.val{α:Type}:Tr α->Option α
 |.err=>Q2
 |.chk c t=>if c then t.val else Q2
 |.br c t f=>if c then t.val else f.val
 |.ok a=>Q1 a
def Tr.bind{α β:Type}:Tr α->(α->Tr β)->Tr β
 |.err,_=>.err
 |.chk c t,k=>.chk c (t.bind k)
 |.br c t f,k=>.br c (t.bind k) (f.bind k)
 |.ok a,k=>k a
structure fT where
 val:AV
 wr:List (Nat×AO):=[]
 nw:List AO:=[]
abbrev zV:=List AV->(Nat->AO)->Nat->Tr fT
structure bW where
 P:Program
 sh:TypeId->Option Sh
 gl:Nat->AV
 F:FuncId->Option zV
 own:Bool:=Q4
structure St where
 tmps:List AV
 heap:List AO
def St.hp(st:St)(id:Nat):AO:=st.heap.getD id .dead
def wI(hp:Nat->AO)(e:Sh):AV->Option (List (Sem e))
 |.nils=>Q1 []
 |.sl e' l=>if h:e'=e then Q1 (h▸l)else Q2
 | .vec id=>match hp id with
  |.vec e' l=>if h:e'=e then Q1 (h▸l)else Q2
  |.frz e' l=>if h:e'=e then Q1 (h▸l)else Q2
  |_=>Q2
 |_=>Q2
def uS(hp:Nat->AO):List AV->Option (ze×List AV)
 | .str op::.int .i64 k::.int .i64 i::.str vs::.str s::c::r=>match wI hp .expr c with
  |some l=>Q1 (ze.mk op (k,i,vs) s l,r)
  |none=>Q2
 |_=>Q2
def cP(hp:Nat->AO):(s:Sh)->List AV->Option (Sem s×List AV)
 |.unit,cs=>Q1 ((),cs)
 |.bool,.bool b::r=>Q1 (b,r)
 |.bool,.kb b::r=>Q1 (b,r)
 |.int k,.int k' n::r=>if k'=k then Q1 (n,r)else Q2
 |.str,.str s::r=>Q1 (s,r)
 | .sl e,c::r=>match wI hp e c with
  |some l=>Q1 (l,r)
  |none=>Q2
 | .pr a b,cs=>match cP hp a cs with
  | some (x,r)=>match cP hp b r with
   |some (y,r')=>Q1 ((x,y),r')
   |none=>Q2
  |none=>Q2
 |.expr,cs=>uS hp cs
 |_,_=>Q2
def cellsOf:AV->Option (List AV)
 |.any=>Q2
 |.tup _=>Q2
 |.agg cs=>Q1 cs
 |v=>Q1 [v]
def Sh.isAgg:Sh->Bool
 |.pr _ _|.expr|.unit=>Q3
 |_=>Q4
def AV.isAgg:AV->Bool
 |.agg _=>Q3
 |_=>Q4
def yx(hp:Nat->AO)(s:Sh)(v:AV):Option (Sem s):=
 if s.isAgg==v.isAgg then match cellsOf v with
  | some cs=>match cP hp s cs with
   |some (x,[])=>Q1 x
   |_=>Q2
  |none=>Q2
 else Q2
def zz(s:Sh)(x:Sem s):AV:=
 match s.isAgg with
 |true=>.agg (zq s x)
 |false=>(zq s x).headD .any
def MX(k:IntKind)(n:Int):Bool:=match k with
 |.i8=>Q0 (-128<=n)&&Q0 (n<=127)
 |.i16=>Q0 (-32768<=n)&&Q0 (n<=32767)
 |.i32=>Q0 (-2147483648<=n)&&Q0 (n<=2147483647)
 |.i64=>Q0 (-9223372036854775808<=n)&&Q0 (n<=9223372036854775807)
 |.u8=>Q0 (0<=n)&&Q0 (n<=255)
 |.u16=>Q0 (0<=n)&&Q0 (n<=65535)
 |.u32=>Q0 (0<=n)&&Q0 (n<=4294967295)
 |.u64=>Q0 (0<=n)&&Q0 (n<=18446744073709551615)
def JA:Value->AV
 |.bool b=>.kb b
 |.int k n=>if MX k n then .int k n else .any
 |.string s=>if s.data.toList.length<=1000000 then .str s.data.toList else .any
 |.slice Q2 0 0=>.nils
 |.pointer Q2=>.nilp
 |.nilFunc=>.nilf
 |.nilIface=>.ifc Q3
 |_=>.any
def znr:Value->Bool
 |.agg _|.tuple _=>Q4
 |_=>Q3
def BB:Value->AV
 |.agg cs=>if cs.toList.all znr then .agg (cs.toList.map JA)else .any
 |v=>JA v
def rc(c:Bool):AV->AV->Option AV
 |.bool a,.bool b=>Q1 (.bool (bif c then a else b))
 |.bool a,.kb b=>Q1 (.bool (bif c then a else b))
 |.kb a,.bool b=>Q1 (.bool (bif c then a else b))
 |.kb a,.kb b=>Q1 (.bool (bif c then a else b))
 |.int k a,.int k' b=>if k=k' then Q1 (.int k (bif c then a else b))else Q2
 |.str a,.str b=>Q1 (.str (bif c then a else b))
 |_,_=>Q2
def fR(P:Program)(t:TypeId):Option Nat:=(P.info? t).map (·.size)
def wy(P:Program)(t:TypeId):Option AV:=match P.info? t with
 |some i=>i.zero.map BB
 |none=>Q2
def Ei(P:Program)(t:TypeId):Option Bool:=match P.underlying t with
 |some (.struct _)|some (.array _ _)=>Q1 Q3
 |some _=>Q1 Q4
 |none=>Q2
def W9(P:Program)(t:TypeId):Option (List AV):=match P.info? t with
 | some i=>match i.zero with
  |some (.map Q2)=>Q1 [.any]
  |some z=>cellsOf (BB z)
  |none=>Q2
 |none=>Q2
def sM(P:Program)(t:TypeId)(cs:List AV)(off:Nat):Option AV:=
 match Ei P t,fR P t with
 |some Q3,Q1 n=>if off+n<=cs.length then Q1 (.agg ((cs.drop off).take n))else Q2
 |some Q4,_=>cs[off]?
 |_,_=>Q2
def setCells(cs:List AV)(off:Nat):List AV->List AV
 |[]=>cs
 |v::r=>setCells (cs.set off v) (off+1) r
def ret(v:AV):Tr fT:=.ok {val:=v}
def EP:Option AV->Tr fT
 |some v=>ret v
 |none=>.err
def AK(P:Program)(t:TypeId)(f:Nat):Option Field:=match P.underlying t with
 |some (.struct fs)=>fs[f]?
 |_=>Q2
def zO(n:Int)(len:Nat):Bool:=Q0 (0<=n)&&Q0 (n<len)
def cO:AV->List Nat
 |.vec id=>[id]
 |_=>[]
def CG:AO->AO
 |.vec e l=>.frz e l
 |o=>o
def pb:AO->Bool
 |.vec _ _|.frz _ _=>Q3
 |_=>Q4
def gw(hp:Nat->AO)(ids:List Nat):List (Nat×AO):=ids.map λid=>(id,CG (hp id))
def eqT(P:Program)(t:TypeId)(x y:AV):Option Bool:=
 match P.underlying t,x,y with
 |some (.int _),.int k a,.int k' b=>if k=k' then Q1 (a==b)else Q2
 |some .string,.str a,.str b=>Q1 (a==b)
 |some .bool,.bool a,.bool b=>Q1 (a==b)
 |some .bool,.bool a,.kb b=>Q1 (a==b)
 |some .bool,.kb a,.bool b=>Q1 (a==b)
 |some .bool,.kb a,.kb b=>Q1 (a==b)
 |_,_,_=>Q2
def EG(P:Program):List Field->Nat->List AV->List AV->Option Bool
 |[],_,[],[]=>Q1 Q3
 | f::fs,i,a::xs,b::ys=>if f.name != "_" && f.offset==i then match eqT P f.type a b,EG P fs (i+1) xs ys with
   |some r,Q1 s=>Q1 (r&&s)
   |_,_=>Q2
  else Q2
 |_,_,_,_=>Q2
def eqA(P:Program)(t:TypeId)(x y:AV):Option Bool:=
 match x,y with
 | .agg a,.agg b=>match P.underlying t with
  |some (.struct fs)=>if !P.stoodInHeld t&&!P.eqGuardType P.depth t then EG P fs.toList 0 a b else Q2
  |_=>Q2
 |x,y=>eqT P t x y
def zeV(op:BinOp)(k:IntKind)(a b:Int):Tr fT:=
 match op with
 |.add=>ret (.int k (k.wrap (a+b)))
 |.sub=>ret (.int k (k.wrap (a-b)))
 |.mul=>ret (.int k (k.wrap (a*b)))
 |.quo=>.chk (b !=0) (ret (.int k (k.wrap (a.tdiv b))))
 |.rem=>.chk (b !=0) (ret (.int k (k.wrap (a.tmod b))))
 |.shr=>.chk (b==1) (ret (.int k (a/2)))
 |.eql=>ret (.bool (a==b))
 |.neq=>ret (.bool (a !=b))
 |.lss=>ret (.bool (Q0 (a<b)))
 |.leq=>ret (.bool (Q0 (a<=b)))
 |.gtr=>ret (.bool (Q0 (a>b)))
 |.geq=>ret (.bool (Q0 (a>=b)))
 |_=>.err
def zeW(op:BinOp)(a b:zB):Tr fT:=
 match op with
 |.add=>.chk (Q0 (a.length+b.length<=1099511627776)) (ret (.str (a++b)))
 |.eql=>ret (.bool (a==b))
 |.neq=>ret (.bool (!(a==b)))
 |.lss=>ret (.bool (Op.bytesLess a b))
 |.leq=>ret (.bool (Op.bytesLess a b||a==b))
 |.gtr=>ret (.bool (!(Op.bytesLess a b||a==b)))
 |.geq=>ret (.bool (!Op.bytesLess a b))
 |_=>.err
def zeU(P:Program)(op:BinOp)(t:TypeId)(x y:AV):Tr fT:=
 match op with
 | .eql=>match eqA P t x y with
  |some r=>ret (.bool r)
  |none=>.err
 | .neq=>match eqA P t x y with
  |some r=>ret (.bool (!r))
  |none=>.err
 |_=>.err
def zeT(P:Program)(op:BinOp)(t:TypeId)(x y:AV):Tr fT:=
 match x,y with
 |.int k a,.int k' b=>if k=k' then zeV op k a b else .err
 |.str a,.str b=>zeW op a b
 |x,y=>zeU P op t x y
def F2(place:Nat->Option (Nat×Nat))(cells:List AV):List (Nat×AV)->Option (List AV)
 |[]=>Q1 cells
 | (i,v)::rest=>match place i,cellsOf v with
  |some (off,size),Q1 cs=>if cs.length=size/\off+cs.length<=cells.length then F2 place (setCells cells off cs) rest else Q2
  |_,_=>Q2
def vo(P:Program):List Field->Option (List (Nat×Nat))
 |[]=>Q1 []
 | f::r=>match fR P f.type,vo P r with
  |some n,Q1 l=>Q1 ((f.offset,n)::l)
  |_,_=>Q2
def Mn(P:Program)(t:TypeId)(parts:List (Nat×AV)):Option AV:=
 match wy P t,P.underlying t with
 | some (.agg zero),Q1 (.struct fs)=>
  match vo P fs.toList with
  |some ps=>(F2 (λi=>ps[i]?) zero parts).map .agg
  |none=>Q2
 | some (.agg zero),Q1 (.array _ elem)=>match fR P elem with
  |some n=>(F2 (λi=>Q1 (i*n,n)) zero parts).map .agg
  |none=>Q2
 |_,_=>Q2
def wQ(hp:Nat->AO)(e:Sh):List AV->Option (List (Sem e))
 |[]=>Q1 []
 | v::r=>match yx hp e v,wQ hp e r with
  |some x,Q1 l=>Q1 (x::l)
  |_,_=>Q2
def uU:Nat->List (Nat×AV)->Bool
 |_,[]=>Q3
 |n,(i,_)::r=>i==n&&uU (n+1) r
def Hw(P:Program)(hp:Nat->AO)(t:TypeId):AV->Tr fT
 | .ptr id off=>match hp id with
  |.box cs=>EP (sM P t cs off)
  |_=>.err
 |.eptr cs off=>EP (sM P t cs off)
 | .vptr id sz i off=>match hp id with
  |.vec e l=>if e.size=sz then .chk (Q0 (i<l.length)) (EP (sM P t (zq e (l.getD i (zj e))) off))else .err
  |_=>.err
 |_=>.err
def Hx(P:Program)(hp:Nat->AO)(t:TypeId)(a x:AV):Tr fT:=
 match cellsOf x,fR P t with
 | some vs,Q1 sz=>if vs.length=sz then match a with
   | .ptr id off=>match hp id with
    |.box cs=>if off+sz<=cs.length then .ok {val:=.tup [],wr:=[(id,.box (setCells cs off vs))]}else .err
    |_=>.err
   | .vptr id sz' i off=>match hp id with
    | .vec e l=>if e.size=sz'∧off+sz≤sz'∧(vs.flatMap cO).all (fun j=>pb (hp j)&&j != id) then match cP hp e (setCells (zq e (l.getD i (zj e))) off vs) with
      |some (x,[])=>.chk (Q0 (i<l.length)) (.ok {val:=.tup [],wr:=(id,.vec e (l.set i x))::gw hp (vs.flatMap cO)})
      |_=>.err
     else .err
    |_=>.err
   |_=>.err
  else .err
 |_,_=>.err
def Hu(P:Program)(t:TypeId)(f:Nat)(x:AV):Tr fT:=
 match AK P t f with
 | some fd=>match fR P fd.type with
  | some (_+1)=>match x with
   |.ptr id off=>ret (.ptr id (off+fd.offset))
   |.eptr cs off=>ret (.eptr cs (off+fd.offset))
   |.vptr id sz i off=>ret (.vptr id sz i (off+fd.offset))
   |_=>.err
  |_=>.err
 |none=>.err
def Qn(k:Int)(f:Nat->AV):Nat->Nat->Tr fT
 |_,0=>.err
 |i,1=>ret (f i)
 |i,n+2=>.br (k==(i:Int)) (ret (f i)) (Qn k f (i+1) (n+1))
def pH(P:Program)(hp:Nat->AO)(t:TypeId)(x i:AV):Tr fT:=
 match i with
 | .int _ k=>match P.underlying t with
  | some (.slice elem)=>match x with
   |.sl e l=>if fR P elem=Q1 e.size then .chk (zO k l.length) (ret (.eptr (zq e (l.getD k.toNat (zj e))) 0))else .err
   | .vec id=>match hp id with
    |.vec e l=>if fR P elem=Q1 e.size then .chk (zO k l.length) (ret (.vptr id e.size k.toNat 0))else .err
    |.frz e l=>if fR P elem=Q1 e.size then .chk (zO k l.length) (ret (.eptr (zq e (l.getD k.toNat (zj e))) 0))else .err
    |_=>.err
   |_=>.err
  | some (.array len elem)=>match fR P elem with
   | some sz=>match x with
    |.ptr id off=>.chk (zO k len) (ret (.ptr id (off+k.toNat*sz)))
    |.eptr cs off=>.chk (zO k len) (Qn k (λi=>.eptr cs (off+i*sz)) 0 len)
    |_=>.err
   |none=>.err
  |_=>.err
 |_=>.err
def Hv(P:Program)(t:TypeId)(x i:AV):Tr fT:=
 match i with
 | .int _ k=>match P.underlying t,x with
  |some .string,.str s=>.chk (zO k s.length) (ret (.int .u8 (s.getD k.toNat 0).toNat))
  | some (.array len elem),.agg cs=>match fR P elem with
   | some sz=>match sM P elem cs (k.toNat * sz) with
    |some v=>.chk (zO k len) (ret v)
    |none=>.err
   |none=>.err
  |_,_=>.err
 |_=>.err
def dK(v:AV):List Nat:=match cellsOf v with
 |some cs=>cs.flatMap cO
 |none=>[]
def nP(E:bW)(hp:Nat->AO)(t:TypeId)(len:Nat)(ps:List (Nat×AV)):Tr fT:=
 match E.P.underlying t with
 | some (.slice elem)=>match len with
  |0=>if ps.isEmpty&&(fR E.P elem).isSome then ret .nils else .err
  | _=>match E.sh elem with
   | some e=>
    if ps.length=len&&uU 0 ps&&Q0 (len*e.size<=100000)&&(ps.flatMap λp=>dK p.2).all (λj=>pb (hp j))then match wQ hp e (ps.map (·.2))with
     |some l=>.ok {val:=.sl e l,wr:=gw hp (ps.flatMap λp=>dK p.2)}
     |none=>.err
    else .err
   |none=>.err
 |_=>.err
def tB(E:bW)(hp:Nat->AO)(n:Nat)(t:TypeId)(len:Nat)(ps:List (Nat×AV)):Tr fT:=
 match E.P.underlying t with
 | some (.slice elem)=>match E.sh elem with
  | some e=>
   if ps.length=len&&uU 0 ps&&Q0 (0<len)&&Q0 (len*e.size<=100000)&&(ps.flatMap λp=>dK p.2).isEmpty then match wQ hp e (ps.map (·.2))with
    |some l=>.ok {val:=.vec n,nw:=[.vec e l]}
    |none=>.err
   else .err
  |none=>.err
 |_=>.err
def pu:AV->Option Int
 |.int _ k=>Q1 k
 |_=>Q2
def uL(P:Program)(t:TypeId)(x:AV)(lo hi mx:Option AV):Tr fT:=
 match P.underlying t,x,mx with
 | some .string,.str s,Q2=>
  match(match lo with|none=>Q1 0|some a=>pu a),(match hi with|none=>Q1 (s.length:Int)|some a=>pu a)with
  |some l,Q1 h=>.chk (Q0 (0<=l)&&Q0 (l<=h)&&Q0 (h<=s.length)) (ret (.str ((s.drop l.toNat).take (h.toNat-l.toNat))))
  |_,_=>.err
 | some (.slice elem),.sl e s,Q2=>if fR P elem=Q1 e.size then
   match(match lo with|none=>Q1 0|some a=>pu a),(match hi with|none=>Q1 (s.length:Int)|some a=>pu a)with
   |some l,Q1 h=>.chk (Q0 (0<=l)&&Q0 (l<=h)&&Q0 (h<=s.length)) (ret (.sl e ((s.drop l.toNat).take (h.toNat-l.toNat))))
   |_,_=>.err
  else .err
 | some (.slice elem),.sl _ _,Q1 (.int _ 0)=>match lo,hi with
  |none,Q1 (.int _ 0)=>if(fR P elem).isSome then ret .nils else .err
  |_,_=>.err
 | some (.slice elem),.nils,Q1 (.int _ 0)=>match lo,hi with
  |none,Q1 (.int _ 0)=>if(fR P elem).isSome then ret .nils else .err
  |_,_=>.err
 |_,_,_=>.err
def Ct(P:Program)(hp:Nat->AO)(t:TypeId)(x:AV)(lo hi mx:Option AV):Tr fT:=
 match x with
 | .vec id=>match hp id with
  |.vec e l=>(uL P t (.sl e l) lo hi mx).bind λf=>.ok {val:=f.val,wr:=gw hp [id]}
  |.frz e l=>uL P t (.sl e l) lo hi mx
  |_=>.err
 |x=>uL P t x lo hi mx
def TV(P:Program)(hp:Nat->AO)(t:TypeId)(x:AV):Tr fT:=
 match P.underlying t with
 | some .string=>match x with
  |.str s=>ret (.int .i64 s.length)
  |_=>.err
 | some (.slice _)=>match x with
  |.nils=>ret (.int .i64 0)
  |.sl _ l=>ret (.int .i64 l.length)
  | .vec id=>match hp id with
   |.vec _ l=>ret (.int .i64 l.length)
   |.frz _ l=>ret (.int .i64 l.length)
   |_=>.err
  |_=>.err
 | some (.map _ _)=>match x with
  | .mp id=>match hp id with
   |.vmap _ es=>.chk (Q0 (es.length<=1073741824)) (ret (.int .i64 es.length))
   |_=>.err
  |_=>.err
 |_=>.err
def uI(E:bW)(hp:Nat->AO)(n:Nat)(elem:TypeId)(b x:AV):Tr fT:=
 match E.sh elem,b with
 | some e,.nils=>match wI hp e x with
  |some l=>.chk (Q0 (l.length<=1073741824)) (.ok {val:=.vec n,nw:=[.vec e l]})
  |none=>.err
 | some e,.vec id=>match hp id with
  | .vec e' l0=>if h:e'=e then match wI hp e x with
    |some l'=>.chk (Q0 (l0.length+l'.length<=1073741824)) (.ok {val:=.vec n,wr:=[(id,.dead)],nw:=[.vec e ((h▸l0:List (Sem e))++l')]})
    |none=>.err
   else .err
  |_=>.err
 |_,_=>.err
def OU(es:List (zB×AV))(s:zB)(z:Tr fT):Tr fT:=match es with
 |[]=>z
 |(k,v)::r=>.br (s==k) (ret v) (OU r s z)
def HK(es:List (zB×AV))(s:zB)(z:Tr fT):Tr fT:=match es with
 |[]=>z
 |(k,v)::r=>.br (s==k) (ret (.tup [v,.kb Q3])) (HK r s z)
def R5:AV->Option (Int×Int×zB)
 |.agg [.int .i64 a,.int .i64 b,.str s]=>Q1 (a,b,s)
 |_=>Q2
def zgX:Bool->AV->Option Int
 |false,.int .i64 n=>Q1 n
 |true,.agg []=>Q1 0
 |_,_=>Q2
def nv(es:List ((Int×Int×zB)×Int))(k:Int×Int×zB):Bool:=es.any λp=>k==p.1
def gB(es:List ((Int×Int×zB)×Int))(k:Int×Int×zB):Int:=((es.find? λp=>k==p.1).map (·.2)).getD 0
def kr(es:List ((Int×Int×zB)×Int))(k:Int×Int×zB)(x:Int):List ((Int×Int×zB)×Int):=match es with
 |[]=>[(k,x)]
 |p::r=>bif k==p.1 then(k,x)::r else p::kr r k x
def jV(es:List ((Int×Int×zB)×Int))(k:Int×Int×zB):List ((Int×Int×zB)×Int):=bif nv es k then es else es++[(k,0)]
def lI(es:List ((Int×Int×zB)×Int))(k:Int×Int×zB):Nat:=match es with
 |[]=>0
 |p::r=>bif k==p.1 then 0 else lI r k+1
def j8(es:List ((Int×Int×zB)×Int))(n:Nat)(x:Int):List ((Int×Int×zB)×Int):=match es,n with
 |[],_=>[]
 |p::r,0=>(p.1,x)::r
 |p::r,n+1=>p::j8 r n x
def HC(P:Program)(t:TypeId):Bool:=match P.underlying t with
 |some (.int _)=>Q3
 |_=>Q4
def MZ(P:Program)(t:TypeId):Bool:=match P.underlying t with
 |some .string=>Q3
 |_=>Q4
def nr(P:Program)(kt:TypeId):Bool:=match P.underlying kt with
 | some (.struct fs) => !P.stoodInHeld kt && !P.eqGuardType P.depth kt&&(match fs.toList with
  |[f1,f2,f3]=>f1.name !="_"&&f1.offset==0&&HC P f1.type&&(f2.name !="_"&&f2.offset==1&&HC P f2.type)&&(f3.name !="_"&&f3.offset==2&&MZ P f3.type)
  |_=>Q4)
 |_=>Q4
def Ve(P:Program)(t:TypeId):Option AO:=match P.underlying t with
 | some (.map kt et)=>match P.underlying kt with
  |some .string=>Q1 (.fmap [])
  | _=>if nr P kt then match P.underlying et with
    |some (.int .i64)=>Q1 (.vmap Q4 [])
    |some (.struct fs)=>if fs.size=0 then Q1 (.vmap Q3 [])else Q2
    |_=>Q2
   else Q2
 |_=>Q2
def uK(P:Program)(hp:Nat->AO)(t:TypeId)(m k x:AV):Tr fT:=
 match P.underlying t with
 | some (.map kt _)=>match P.underlying kt with
  | some .string=>match m,k with
   | .mp id,.str s=>match hp id with
    |.fmap es=>.chk (!(es.any λp=>p.1==s)) (.ok {val:=.tup [],wr:=[(id,.fmap (es++[(s,x)]))]})
    |_=>.err
   |_,_=>.err
  | some (.struct _)=>if nr P kt then match m,R5 k with
    | .mp id,Q1 v=>match hp id with
     | .vmap u es=>match zgX u x with
      |some n=>.ok {val:=.tup [],wr:=[(id,.vmap u (kr es v n))]}
      |none=>.err
     |_=>.err
    |_,_=>.err
   else .err
  |_=>.err
 |_=>.err
def uJ(P:Program)(hp:Nat->AO)(t:TypeId)(m k:AV):Tr fT:=
 match P.underlying t with
 | some (.map kt et)=>if nr P kt then match m,R5 k with
   | .mp id,Q1 v=>match hp id with
    | .vmap Q4 es=>match wy P et with
     |some (.int .i64 z)=>if z=0 then .chk (Q0 (es.length<=1073741824)) (.ok {val:=.tup [.int .i64 (gB es v),.int .i64 (lI es v)],wr:=[(id,.vmap Q4 (jV es v))]})else .err
     |_=>.err
    |_=>.err
   |_,_=>.err
  else .err
 |_=>.err
def nQ(hp:Nat->AO)(m s x:AV):Tr fT:=
 match m,s,x with
 | .mp id,.int .i64 n,.int .i64 y=>match hp id with
  |.vmap Q4 es=>.chk (zO n es.length) (.ok {val:=.tup [],wr:=[(id,.vmap Q4 (j8 es n.toNat y))]})
  |_=>.err
 |_,_,_=>.err
def zcT(P:Program)(et:TypeId):Tr fT:=match wy P et with
 |some z=>ret (.tup [z,.kb Q4])
 |none=>.err
def kY(P:Program)(hp:Nat->AO)(t:TypeId)(x i:AV)(two:Bool):Tr fT:=
 match P.underlying t with
 | some (.map kt et)=>match P.underlying kt with
  | some .string=>match x,i with
   | .mp id,.str s=>match hp id with
    |.fmap es=>if two then HK es s (zcT P et)else OU es s (EP (wy P et))
    |_=>.err
   |_,_=>.err
  | some (.struct _)=>if nr P kt then match x,R5 i with
    | .mp id,Q1 v=>match hp id with
     | .vmap u es=>match wy P et with
      |some (.int .i64 z)=>if u=Q4/\z=0 then ret (if two then .tup [.int .i64 (gB es v),.bool (nv es v)]else .int .i64 (gB es v))else .err
      |some (.agg cs)=>if u=Q3/\cs.isEmpty=Q3 then ret (if two then .tup [.agg [],.bool (nv es v)]else .agg [])else .err
      |_=>.err
     |_=>.err
    |_,_=>.err
   else .err
  |_=>.err
 |_=>.err
def TU(E:bW)(ev:Operand->AV)(hp:Nat->AO)(n:Nat)(c:Call):Tr fT:=
 match c.callee with
 | .value f=>match ev f with
  | .clo (.func k) first caps=>match E.F k with
   |some F=>F (first++c.args.toList.map ev++caps) hp n
   |none=>.err
  |_=>.err
 | .builtin .len=>match c.args.toList.map ev,c.argTypes.toList with
  |[x],[t]=>TV E.P hp t x
  |_,_=>.err
 | .builtin .append=>match c.args.toList.map ev,c.argTypes.toList with
  | [b,x],[t,t']=>match E.P.underlying t,E.P.underlying t' with
   |some (.slice elem),Q1 (.slice _)=>uI E hp n elem b x
   |_,_=>.err
  |_,_=>.err
 |_=>.err
def je(l:List Int):zB:=l.map λn=>UInt8.ofNat n.toNat
def Hs(P:Program)(el:TypeId):AV->Tr fT
 | .sl (.int .u8) l=>match P.underlying el with
  |some (.int .u8)=>ret (.str (je l))
  |_=>.err
 |_=>.err
def pI(E:bW)(ev:Operand->AV)(hp:Nat->AO)(n:Nat)(o:Oper):Tr fT:=
 match o.op with
 |.move x|.assign x=>ret (ev x)
 | .pick c a b=>match ev c with
  |.kb Q3=>ret (ev a)
  |.kb Q4=>ret (ev b)
  |.bool x=>EP (rc x (ev a) (ev b))
  |_=>.err
 | .box _ x=>match cellsOf (ev x) with
  |some cs=>.ok {val:=.ptr n 0,nw:=[.box cs]}
  |none=>.err
 | .alloc t=>match W9 E.P t with
  |some cs=>.ok {val:=.ptr n 0,nw:=[.box cs]}
  |none=>.err
 |.load t a=>Hw E.P hp t (ev a)
 |.store t a x=>Hx E.P hp t (ev a) (ev x)
 |.fieldAddr t x f=>Hu E.P t f (ev x)
 | .field t x f=>match AK E.P t f,ev x with
  |some fd,.agg cs=>EP (sM E.P fd.type cs fd.offset)
  |_,_=>.err
 |.indexAddr t x i=>pH E.P hp t (ev x) (ev i)
 |.index t x i=>Hv E.P t (ev x) (ev i)
 |.build t parts=>EP (Mn E.P t (parts.toList.map λp=>(p.1,ev p.2)))
 | .buildSlice t len parts=>match E.own with
  |true=>tB E hp n t len (parts.toList.map λp=>(p.1,ev p.2))
  |false=>nP E hp t len (parts.toList.map λp=>(p.1,ev p.2))
 |.binOp op t x y _=>zeT E.P op t (ev x) (ev y)
 | .unOp .not _ x=>match ev x with
  |.bool b=>ret (.bool (!b))
  |.kb b=>ret (.kb (!b))
  |_=>.err
 | .unOp .neg _ x=>match ev x with
  |.int k a=>ret (.int k (k.wrap (0-a)))
  |_=>.err
 | .convert src dst x=>match E.P.underlying src,E.P.underlying dst,ev x with
  |some _,Q1 (.int k),.int _ a=>ret (.int k (k.wrap a))
  |some _,Q1 .string,.str s=>ret (.str s)
  |some (.slice el),Q1 .string,.sl e l=>Hs E.P el (.sl e l)
  |_,_,_=>.err
 |.slice t x lo hi mx=>Ct E.P hp t (ev x) (lo.map ev) (hi.map ev) (mx.map ev)
 | .extract x i=>match ev x with
  |.tup vs=>EP vs[i]?
  |_=>.err
 |.makeFunc fn first caps=>ret (.clo fn (first.toList.map ev) (caps.toList.map ev))
 | .nilCheck x=>match ev x with
  |.ptr a b=>ret (.ptr a b)
  |.eptr a b=>ret (.eptr a b)
  |.vptr a b c d=>ret (.vptr a b c d)
  |.clo (.func f) a b=>ret (.clo (.func f) a b)
  |_=>.err
 |.call c=>TU E ev hp n c
 | .makeMap t Q2=>match Ve E.P t with
  |some o=>.ok {val:=.mp n,nw:=[o]}
  |none=>.err
 |.insert t m k x=>uK E.P hp t (ev m) (ev k) (ev x)
 |.mapUpdate t m k x=>uK E.P hp t (ev m) (ev k) (ev x)
 |.lookup t x i two=>kY E.P hp t (ev x) (ev i) two
 |.mapEntry t m k=>uJ E.P hp t (ev m) (ev k)
 |.entryStore _ m s x=>nQ hp (ev m) (ev s) (ev x)
 |_=>.err
mutual
def AV.ids:AV->List Nat
 |.vec id|.ptr id _|.vptr id _ _ _|.mp id=>[id]
 |.eptr cs _|.agg cs|.tup cs=>AV.idsL cs
 |.clo _ a b=>AV.idsL a++AV.idsL b
 |_=>[]
def AV.idsL:List AV->List Nat
 |[]=>[]
 |v::r=>v.ids++AV.idsL r
end
mutual
def AV.ren(f:Nat->Nat):AV->AV
 |.vec id=>.vec (f id)
 |.ptr id o=>.ptr (f id) o
 |.vptr id sz i o=>.vptr (f id) sz i o
 |.mp id=>.mp (f id)
 |.eptr cs o=>.eptr (AV.renL f cs) o
 |.agg cs=>.agg (AV.renL f cs)
 |.tup cs=>.tup (AV.renL f cs)
 |.clo g a b=>.clo g (AV.renL f a) (AV.renL f b)
 |v=>v
def AV.renL(f:Nat->Nat):List AV->List AV
 |[]=>[]
 |v::r=>v.ren f::AV.renL f r
end
def AO.ids:AO->List Nat
 |.box cs=>AV.idsL cs
 |.fmap es=>AV.idsL (es.map (·.2))
 |_=>[]
def AO.ren(f:Nat->Nat):AO->AO
 |.box cs=>.box (AV.renL f cs)
 |.fmap es=>.fmap (es.map λp=>(p.1,p.2.ren f))
 |o=>o
def kh(hp:Nat->AO):Nat->List Nat->List Nat->List Nat
 |0,_,seen=>seen
 |_+1,[],seen=>seen
 |n+1,i::r,seen=>if seen.contains i then kh hp n r seen else kh hp n (r++(hp i).ids) (seen++[i])
def iI:Op->Bool
 |.load ..|.store ..|.indexAddr ..|.buildSlice ..|.slice ..|.call _|.insert ..|.mapUpdate ..|.lookup ..|.mapEntry ..|.entryStore ..=>Q3
 |_=>Q4
def tq:Op->Bool
 |.call _=>Q3
 |_=>Q4
def uN(hp:Nat->AO)(ev:Operand->AV)(o:Oper):List Nat:=
 if tq o.op then kh hp 400 (AV.idsL (o.op.operands.toList.map ev)) []else if iI o.op then AV.idsL (o.op.operands.toList.map ev)else[]
def Kq(hp:Nat->AO)(ev:Operand->AV)(o:Oper):Bool:=
 !iI o.op||(AV.idsL (o.op.operands.toList.map ev)).all (λi=>(uN hp ev o).contains i)&&(!tq o.op||(uN hp ev o).all (λi=>(hp i).ids.all λj=>(uN hp ev o).contains j))
structure E6 where
 fp:List Nat:=[]
 wr:List Nat:=[]
 base:Nat:=0
 nw:Nat:=0
structure RS where
 tmps:List AV
 heap:List AO
 known:List (Nat×Bool):=[]
 touched:Bool:=Q4
 log:List E6:=[]
def RS.hp(st:RS)(id:Nat):AO:=st.heap.getD id .dead
def wE(E:bW)(tmps:List AV)(known:List (Nat×Bool)):Operand->AV
 | .tmp t=>match known.lookup t with
  |some b=>.kb b
  |none=>tmps.getD t .any
 |.const v=>BB v
 |.global g=>E.gl g
 |.func f=>.clo (.func f) [] []
def nz(h:List AO):List (Nat×AO)->List AO
 |[]=>h
 |(i,o)::r=>nz (h.set i o) r
def qa(tmps:List AV)(dst:Option Tmp)(v:AV):List AV:=match dst with
 |some d=>tmps.set d v
 |none=>tmps
def tI(known:List (Nat×Bool))(dst:Option Tmp):List (Nat×Bool):=match dst with
 |some d=>known.filter λp=>p.1!=d
 |none=>known
def EL(E:bW)(o:Oper)(st:RS):Tr RS:=
  if Kq st.hp (wE E st.tmps st.known) o then
  (pI E (wE E st.tmps st.known) st.hp st.heap.length o).bind λf=>
    if f.wr.all (λp=>p.1<st.heap.length&&(uN st.hp (wE E st.tmps st.known) o).contains p.1)then
    .ok {tmps:=qa st.tmps o.dst f.val,heap:=nz st.heap f.wr++f.nw,known:=tI st.known o.dst,
          touched:=st.touched||!(f.wr.isEmpty&&f.nw.isEmpty),
          log:=st.log++[{fp:=uN st.hp (wE E st.tmps st.known) o,wr:=f.wr.map (·.1),base:=st.heap.length,nw:=f.nw.length}]}
    else .err
  else .err
def mr(o:Oper)(st:RS):RS:=
 {st with tmps:=qa st.tmps o.dst (.tup []),known:=tI st.known o.dst,log:=st.log++[{}]}
def ue(E:bW)(ops:List Oper)(st:RS)(o:Oper):Tr RS:=
 match o.guard with
 |none=>EL E o st
 | some (j,want)=>match (ops[j]?).bind (·.dst) with
  |none=>.ok (mr o st)
  | some d=>match wE E st.tmps st.known (.tmp d) with
   |.kb b=>if b==want then EL E o st else .ok (mr o st)
   |.tup _=>.ok (mr o st)
   | .bool b=>
    let yes:RS:={st with known:=(d,Q3)::st.known}
    let no:RS:={st with known:=(d,Q4)::st.known}
    .br b (if want then EL E o yes else .ok (mr o yes)) (if want then .ok (mr o no)else EL E o no)
   |_=>.err
def cG(E:bW)(ops:List Oper):List Oper->RS->Tr RS
 |[],st=>.ok st
 |o::r,st=>(ue E ops st o).bind (cG E ops r)
def QI(ops:List Oper):List Nat:=ops.filterMap (·.dst)
def dm(c:Bool):List Nat->List AV->List AV->List AV->List AV
 |[],pre,_,_=>pre
 |d::r,pre,t,f=>dm c r (pre.set d ((rc c (t.getD d .any) (f.getD d .any)).getD .any)) t f
def YX:AV->AV->Bool
 |.clo (.func a) _ _,.clo (.func b) _ _=>a !=b
 |.clo _ _ _,.nilf=>Q3
 |.nilf,.clo _ _ _=>Q3
 |_,_=>Q4
def uA(ds:List Nat)(l l':List AV):Bool:=ds.any λd=>YX (l.getD d .any) (l'.getD d .any)
def An(ds:List Nat)(pre:List AV):Tr RS->Option (Option Bool×List AV)
 |.err=>Q2
 |.ok st=>if st.touched then Q2 else Q1 (Q2,st.tmps)
 | .chk c t=>match An ds pre t with
  |some (Q2,l)=>Q1 (Q1 c,l)
  |some (Q1 c',l)=>Q1 (Q1 (c&&c'),l)
  |none=>Q2
 | .br c t f=>match An ds pre t,An ds pre f with
  |some (Q2,l),Q1 (Q2,l')=>if uA ds l l' then Q2 else Q1 (Q2,dm c ds pre l l')
  |some (Q1 a,l),Q1 (Q2,l')=>if uA ds l l' then Q2 else Q1 (Q1 (bif c then a else Q3),dm c ds pre l l')
  |some (Q2,l),Q1 (Q1 b,l')=>if uA ds l l' then Q2 else Q1 (Q1 (bif c then Q3 else b),dm c ds pre l l')
  |some (Q1 a,l),Q1 (Q1 b,l')=>if uA ds l l' then Q2 else Q1 (Q1 (bif c then a else b),dm c ds pre l l')
  |_,_=>Q2
def zlp{α:Type}:Tr α->Bool
 |.br ..=>Q3
 |.chk _ t=>zlp t
 |_=>Q4
def Yp:List Oper->List (List Nat)->List (List Nat)
 |[],acc=>acc
 |o::r,acc=>Yp r (acc++[o.after.toList.flatMap λe=>if Region.binds .any e then e.on::acc.getD e.on []else[]])
def eV(ops:List Oper)(o:Oper):List Nat:=
  (o.op.operands.toList.filterMap λ|.tmp t=>Q1 t|_=>Q2)++
  (match o.guard with
   |some (j,_)=>((ops[j]?).bind (·.dst)).toList
   |none=>[])
def iH(a b:List Nat):Bool:=a.any λx=>b.contains x
def gr(r:E6)(x:Nat):Bool:=Q0 (r.base<=x)&&Q0 (x<r.base+r.nw)
def uz(ops:List Oper)(oi oj:Oper)(ri rj:E6):Bool:=
 iH oi.dst.toList (eV ops oj)||iH oi.dst.toList oj.dst.toList||iH (eV ops oi) oj.dst.toList||
 iH ri.wr rj.fp||iH ri.fp rj.wr||rj.fp.any (gr ri)||ri.fp.any (gr rj)
def cV(r:E6)(id:Nat):Bool:=r.wr.contains id||gr r id
def WG(ops:List Oper)(log:List E6)(an:List (List Nat))(i j:Nat)(oi oj:Oper)(ri rj:E6):Bool:=
 match oi.op,oj.op,ri.fp,rj.wr with
 | .lookup _ _ _ Q4,.mapEntry _ _ _,[a],[b]=>b==a&&ri.wr.isEmpty&&ri.nw==0&&rj.nw==0&&
  !(iH oi.dst.toList (eV ops oj)||iH oi.dst.toList oj.dst.toList||iH (eV ops oi) oj.dst.toList)&&
  (List.range ops.length).all λl=>match log[l]? with
   |some rl=>!cV rl a||Q0 (l<i)||l==j||(Q0 (j<l)&&(an.getD l []).contains i)
   |none=>Q4
 |_,_,_,_=>Q4
def vn(ops:List Oper)(log:List E6):Bool:=
 let an:=Yp ops []
 (ops.zipIdx.all λp=>p.1.after.toList.all λe=>!Region.binds .any e||Q0 (e.on<p.2))&&
 (List.range ops.length).all λj=>(List.range j).all λi=>
  match ops[i]?,ops[j]?,log[i]?,log[j]? with
  |some oi,Q1 oj,Q1 ri,Q1 rj=>!uz ops oi oj ri rj||(an.getD j []).contains i||WG ops log an i j oi oj ri rj
  |_,_,_,_=>Q4
def checked(ops:List Oper):Tr RS->Tr RS
 |.err=>.err
 |.chk c t=>.chk c (checked ops t)
 |.br c t f=>.br c (checked ops t) (checked ops f)
 |.ok st=>if vn ops st.log then .ok st else .err
def RS.out(st:RS):St:={tmps:=st.tmps,heap:=st.heap}
def tE(E:bW)(ops:List Oper)(draw:Bool)(st:St):Tr St:=
 let t0:=cG E ops ops {tmps:=st.tmps,heap:=st.heap}
 let t:=if draw then checked ops t0 else t0
 if zlp t then match An (QI ops) st.tmps t with
  |some (Q2,l)=>.ok {st with tmps:=l}
  |some (Q1 c,l)=>.chk c (.ok {st with tmps:=l})
  |none=>t.bind λs=>.ok s.out
 else t.bind λs=>.ok s.out
inductive zD where
 |head (key:Nat) (k:List Item) (st:St)
 |ret (v:AV) (heap:List AO)
 |fork (c:Bool) (k1 k2:List Item) (st:St)
def HO:Code->Code->Option (Nat×Nat×Nat×TypeId×Code×Code)
 | .region _ ops Q4,.cond (.tmp d') a b=>match ops.toList with
  | [o1,o2]=>match o1.dst,o1.op,o1.guard,o2.dst,o2.op,o2.guard with
   |some x,.move (.tmp s),Q2,Q1 d,.binOp .eql t (.tmp x') (.const (.slice Q2 0 0)) _,Q2=>if x'=x/\d'=d/\x≠d then Q1 (s,x,d,t,a,b)else Q2
   |_,_,_,_,_,_=>Q2
  |_=>Q2
 |_,_=>Q2
def Hj(hp:Nat->AO):AV->Option Bool
 |.nils=>Q1 Q3
 |.sl _ l=>Q1 l.isEmpty
 | .vec id=>match hp id with
  |.vec _ l=>Q1 l.isEmpty
  |.frz _ l=>Q1 l.isEmpty
  |_=>Q2
 |_=>Q2
def MY(P:Program)(t:TypeId):Bool:=match P.underlying t with
 |some (.slice _)=>Q3
 |_=>Q4
def EO(keep:List Nat):Nat->List AV->List AV
 |_,[]=>[]
 |i,v::r=>(if keep.contains i then v else .any)::EO keep (i+1) r
def vq(st:St):Nat×Option Nat×Sh->St
 | (s,Q2,e)=>match st.tmps.getD s .any with
  |.nils=>{tmps:=st.tmps.set s (.vec st.heap.length),heap:=st.heap++[.vec e []]}
  |_=>st
 | (s,some c,e)=>match st.tmps.getD s .any with
  | .ptr id 0=>match st.hp id with
   | .box cs=>match cs.getD c .any with
    |.nils=>{tmps:=st.tmps,heap:=st.heap.set id (.box (cs.set c (.vec st.heap.length)))++[.vec e []]}
    |_=>st
   |_=>st
  |_=>st
def GP(st:St):Nat×Nat->St
 | (s,c)=>match st.tmps.getD s .any with
  | .ptr id 0=>match st.hp id with
   | .box cs=>match cs.getD c .any with
    | .vec k=>match CG (st.hp k) with
     |.frz e l=>{tmps:=st.tmps,heap:=(st.heap.set k (.frz e l)).set id (.box (cs.set c (.sl e l)))}
     |_=>st
    |_=>st
   |_=>st
  |_=>st
structure aN where
 slots:List Nat:=[]
 prom:List (Nat×Option Nat×Sh):=[]
 unroll:Bool:=Q4
 sett:List (Nat×Nat):=[]
 cut:Bool:=Q4
def OZ:List Nat->Bool
 |[]=>Q3
 |i::r=>!r.contains i&&OZ r
def kx(hp:Nat->AO)(n0:Nat)(from_ ids:List Nat):Bool:=
 from_.all (λi=>ids.contains i)&&ids.all (λi=>(hp i).ids.all λj=>ids.contains j)&&OZ ids&&ids.take n0==List.range n0
def zcM(n0:Nat)(st:St):Option St:=
 let ids:=kh st.hp 400 (List.range n0++AV.idsL st.tmps) []
 if kx st.hp n0 (AV.idsL st.tmps) ids then
  Q1 {tmps:=AV.renL (λi=>ids.idxOf i) st.tmps,heap:=ids.map λi=>(st.hp i).ren λi=>ids.idxOf i}
 else Q2
def zgi(n0:Nat)(k:aN)(st:St):Option St:=
 zcM n0 (k.prom.foldl vq {st with tmps:=EO k.slots 0 st.tmps})
def lg(n0:Nat)(k:aN)(key:Nat)(todo:List Item)(st:St):Tr zD:=
 match zgi n0 k st with
 |some st'=>.ok (.head key todo st')
 |none=>.err
def eH:Code->Nat
 |.region id _ _=>id
 |.seq a _=>eH a
 |.block _ c=>eH c
 |.loop c=>eH c
 |.scope c=>eH c
 |_=>0
def IF(E:bW)(st:St):ResultVar->Option AV
 |.tmp t=>Q1 (st.tmps.getD t .any)
 | .cell a t=>match st.tmps.getD a .any with
  | .ptr id off=>match st.hp id with
   |.box cs=>sM E.P t cs off
   |_=>Q2
  |_=>Q2
def vZ(E:bW)(st:St):List ResultVar->Option (List AV)
 |[]=>Q1 []
 | r::rs=>match IF E st r,vZ E st rs with
  |some v,Q1 vs=>Q1 (v::vs)
  |_,_=>Q2
def HW:List AV->AV
 |[v]=>v
 |vs=>.tup vs
def vY(E:bW)(n0:Nat)(rs:List ResultVar)(st:St):Tr zD:=
 match vZ E st rs with
 | some vs=>
  let v:AV:=HW vs
  let ids:=kh st.hp 400 (List.range n0++v.ids) []
  if kx st.hp n0 v.ids ids then .ok (.ret (v.ren λi=>ids.idxOf i) (ids.map λi=>(st.hp i).ren λi=>ids.idxOf i))else .err
 |none=>.err
def AH(st:St)(c:Operand)(b:Bool):St:=match c with
 |.tmp t=>{st with tmps:=st.tmps.set t (.kb b)}
 |_=>st
def run(E:bW)(n0:Nat)(keep:Nat->aN)(rs:List ResultVar):Nat->List Item->St->Tr zD
 |0,_,_=>.err
 | n + 1,todo,st=>match todo with
  |[]=>vY E n0 rs ((keep 1000000).sett.foldl GP ((keep 1000000).prom.foldl vq st))
  |.inBlock _::k=>run E n0 keep rs n k st
  |.inLoop c::k=>if(keep (eH c)).unroll then run E n0 keep rs n (.code c::.inLoop c::k) st else lg n0 (keep (eH c)) (eH c) (.code c::.inLoop c::k) st
  | .code c::k=>match c with
   |.skip=>run E n0 keep rs n k st
   |.label _=>run E n0 keep rs n k st
   | .seq a b=>match HO a b with
    | some (s,x,d,t,thn,els)=>match Hj st.hp (st.tmps.getD s .any) with
     |some c=>if MY E.P t&&(Q0 (d<st.tmps.length)&&Q0 (x<st.tmps.length))then .ok (.fork c (.code thn::k) (.code els::k) {st with tmps:=(st.tmps.set x (st.tmps.getD s .any)).set d .any})else .err
     |none=>.err
    |none=>run E n0 keep rs n (.code a::.code b::k) st
   | .cond c a b=>match wE E st.tmps [] c with
    |.kb Q3=>run E n0 keep rs n (.code a::k) st
    |.kb Q4=>run E n0 keep rs n (.code b::k) st
    |.bool x=>.br x (run E n0 keep rs n (.code a::k) (AH st c Q3)) (run E n0 keep rs n (.code b::k) (AH st c Q4))
    |_=>.err
   |.block id c=>run E n0 keep rs n (.code c::.inBlock id::k) st
   |.loop c=>if(keep (eH c)).unroll then run E n0 keep rs n (.code c::.inLoop c::k) st else lg n0 (keep (eH c)) (eH c) (.code c::.inLoop c::k) st
   | .exit id=>match exitTo id k with
    |some k'=>run E n0 keep rs n k' st
    |none=>.err
   |.ret=>vY E n0 rs ((keep 1000000).sett.foldl GP ((keep 1000000).prom.foldl vq st))
   |.region id ops draw=>(tE E ops.toList draw st).bind λst'=>if(keep (id+500000)).cut then lg n0 (keep (id+500000)) (id+500000) k st' else run E n0 keep rs n k st'
   |_=>.err
  |_=>.err
def bd(n:Nat)(args:List AV)(heap:List AO):St:={tmps:=args++List.replicate (n-args.length) (.tup []),heap}
def tm(n:Nat)(l:List (Nat×AV)):List AV:=l.foldl (λa p=>a.set p.1 p.2) (List.replicate n .any)
open Tr (chk br)
open AV (nils agg tup ptr kb str sl)
def cq(k:IntKind)(n:Int):Prop:=k.min<=n/\n<=k.max
def aF:Nat:=9223372036854775807
theorem um{p:Prop}(h:p:=by unfold aF;omega):p:=h
inductive Rv (w:World) (U:Nat->Prop) (ρ:Nat->Option Value):AV->Value->Prop
 |any (v:Value):Rv w U ρ .any v
 |kb (b:Bool):Rv w U ρ (.kb b) (.bool b)
 |bool (b:Bool):Rv w U ρ (.bool b) (.bool b)
 |int (k:IntKind) (n:Int) (h:cq k n):Rv w U ρ (.int k n) (.int k n)
 |str (s:zB) (h:s.length<=aF):Rv w U ρ (.str s) (.string ⟨s.toArray⟩)
 |nils (a:Option Addr):Rv w U ρ .nils (.slice a 0 0)
 |sl0 (e:Sh) (a:Option Addr) (c:Nat):Rv w U ρ (.sl e []) (.slice a 0 c)
 | sl (e:Sh) (l:List (Sem e)) (b o c:Nat) (vals:Nat→Nat→Value) (hc:l.length≤c) (hm:l.length≤aF) (hb:b < w.heap.size) (hU:¬ U b)
   (hcell:∀i j,i<l.length->j<e.size->w.cell? ⟨b,o+i*e.size+j,Q2⟩=Q1 (vals i j))
   (hr:∀i(hi:i<l.length)(j:Nat)(c:AV),(zq e l[i])[j]?=Q1 c->Rv w U ρ c (vals i j)):
   Rv w U ρ (.sl e l) (.slice (Q1 ⟨b,o,Q2⟩) l.length c)
 |vec (id:Nat) (v:Value) (h:ρ id=Q1 v) (h1:v.oneCell'=Q3):Rv w U ρ (.vec id) v
 |ptr (id off b:Nat) (h:ρ id=Q1 (.pointer (Q1 ⟨b,0,Q2⟩))):Rv w U ρ (.ptr id off) (.pointer (Q1 ⟨b,off,Q2⟩))
 |vptr (id sz i off b n c:Nat) (h:ρ id=Q1 (.slice (Q1 ⟨b,0,Q2⟩) n c)):Rv w U ρ (.vptr id sz i off) (.pointer (Q1 ⟨b,i*sz+off,Q2⟩))
 | eptr (cs:List AV) (off b o:Nat) (vals:Nat→Value) (hb:b < w.heap.size) (hU:¬ U b)
   (hcell:∀j,j<cs.length->w.cell? ⟨b,o+j,Q2⟩=Q1 (vals j)) (h1:∀j,j<cs.length->(vals j).oneCell'=Q3)
   (hr:∀(j:Nat)(c:AV),cs[j]?=Q1 c->Rv w U ρ c (vals j)):Rv w U ρ (.eptr cs off) (.pointer (Q1 ⟨b,o+off,Q2⟩))
 |nilp:Rv w U ρ .nilp (.pointer Q2)
 | agg (cs:List AV) (vs:List Value) (hl:cs.length=vs.length) (h1:∀ v∈vs,v.oneCell'=Q3)
   (hr:∀(j:Nat)(c:AV)(v:Value),cs[j]?=Q1 c->vs[j]?=Q1 v->Rv w U ρ c v):Rv w U ρ (.agg cs) (.agg vs.toArray)
 | tup (cs:List AV) (vs:List Value) (hl:cs.length=vs.length)
   (hr:∀(j:Nat)(c:AV)(v:Value),cs[j]?=Q1 c->vs[j]?=Q1 v->Rv w U ρ c v):Rv w U ρ (.tup cs) (.tuple vs.toArray)
 | clo (fn:Fn) (fs cs:List AV) (vf vc:List Value) (hf:fs.length=vf.length) (hc:cs.length=vc.length)
   (hrf:∀(j:Nat)(c:AV)(v:Value),fs[j]?=Q1 c->vf[j]?=Q1 v->Rv w U ρ c v) (hrc:∀(j:Nat)(c:AV)(v:Value),cs[j]?=Q1 c->vc[j]?=Q1 v->Rv w U ρ c v):
   Rv w U ρ (.clo fn fs cs) (.func fn vf.toArray vc.toArray)
 |nilf:Rv w U ρ .nilf .nilFunc
 |mp (id:Nat) (v:Value) (h:ρ id=Q1 v) (h1:v.oneCell'=Q3):Rv w U ρ (.mp id) v
 |ifcN:Rv w U ρ (.ifc Q3) .nilIface
 |ifcS (t:TypeId) (v:Value):Rv w U ρ (.ifc Q4) (.iface t v)
 |tab (k:IntKind) (zs:List Int) (b:Nat) (T:TypeId) (fr:Nat×Nat) (hb:w.heap[b]?=Q1 (.cells (zs.map λz=>Value.int k z).toArray T fr)) (hU:¬U b):Rv w U ρ (.tab k zs) (.pointer (Q1 ⟨b,0,Q2⟩))
 |gint (m:Int) (b:Nat) (T:TypeId) (fr:Nat×Nat) (hm:cq .i64 m) (hb:w.heap[b]?=Q1 (.cells #[Value.int .i64 m] T fr)) (hU:¬U b):Rv w U ρ .gint (.pointer (Q1 ⟨b,0,Q2⟩))
structure du (w:World) (U:Nat->Prop) (ρ:Nat->Option Value) (cs:List AV) (vs:List Value):Prop where
 len:cs.length=vs.length
 rv:∀(j:Nat)(c:AV)(v:Value),cs[j]?=Q1 c->vs[j]?=Q1 v->Rv w U ρ c v
theorem nJ{w:World}{b o:Nat}{v:Value}(h:w.cell? ⟨b,o,Q2⟩=Q1 v):b<w.heap.size:=by
 unfold World.cell? at h;grind
theorem Rv.mono{w w':World}{U U':Nat->Prop}{ρ ρ':Nat->Option Value}(hs:w.heap.size<=w'.heap.size)
  (hk:∀b,b<w.heap.size->¬U b->w'.heap[b]?=w.heap[b]?) (hu:∀b,b<w.heap.size->U' b->U b) (hρ:∀id v,ρ id=Q1 v->ρ' id=Q1 v)
  {c:AV} {v:Value} (h:Rv w U ρ c v):Rv w' U' ρ' c v:=by
 have hcell:∀b o v,¬U b->w.cell? ⟨b,o,Q2⟩=Q1 v->w'.cell? ⟨b,o,Q2⟩=Q1 v:=by
  intro b o v hb hc;rw[World.cell?_of_block (hk b (nJ hc) hb)];exact hc
 induction h with
 |any v=>exact .any v
 |kb b=>exact .kb b
 |bool b=>exact .bool b
 |int k n h=>exact .int k n h
 |str s h=>exact .str s h
 |nils a=>exact .nils a
 |sl0 e a c=>exact .sl0 e a c
 | sl e l b o c vals hc hm hb hU hcl hr ih=>
  exact .sl e l b o c vals hc hm (ia hb hs) (λh=>hU (hu b hb h)) (λi j hi hj=>hcell _ _ _ hU (hcl i j hi hj)) ih
 |vec id v h h1=>exact .vec id v (hρ _ _ h) h1
 |ptr id off b h=>exact .ptr id off b (hρ _ _ h)
 |vptr id sz i off b n c h=>exact .vptr id sz i off b n c (hρ _ _ h)
 | eptr cs off b o vals hb hU hcl h1 hr ih=>
  exact .eptr cs off b o vals (ia hb hs) (λh=>hU (hu b hb h)) (λj hj=>hcell _ _ _ hU (hcl j hj)) h1 ih
 |nilp=>exact .nilp
 |agg cs vs hl h1 hr ih=>exact .agg cs vs hl h1 ih
 |tup cs vs hl hr ih=>exact .tup cs vs hl ih
 |clo fn fs cs vf vc hf hc hrf hrc ihf ihc=>exact .clo fn fs cs vf vc hf hc ihf ihc
 |nilf=>exact .nilf
 |mp id v h h1=>exact .mp id v (hρ _ _ h) h1
 |ifcN=>exact .ifcN
 |ifcS t v=>exact .ifcS t v
 | tab k zs b T fr hb hU=>
  have hlt:b<w.heap.size:=(dU.1 hb).1;exact .tab k zs b T fr (by rw[hk b hlt hU];exact hb) (λh=>hU (hu b hlt h))
 | gint m b T fr hm hb hU=>
  have hlt:b<w.heap.size:=(dU.1 hb).1;exact .gint m b T fr hm (by rw[hk b hlt hU];exact hb) (λh=>hU (hu b hlt h))
theorem du.mono{w w':World}{U U':Nat->Prop}{ρ ρ':Nat->Option Value}(hs:w.heap.size<=w'.heap.size)
  (hk:∀b,b<w.heap.size->¬U b->w'.heap[b]?=w.heap[b]?) (hu:∀b,b<w.heap.size->U' b->U b) (hρ:∀id v,ρ id=Q1 v->ρ' id=Q1 v)
  {cs:List AV} {vs:List Value} (h:du w U ρ cs vs):du w' U' ρ' cs vs:=
 ⟨h.len,λj c v hc hv=>(h.rv j c v hc hv).mono hs hk hu hρ⟩
theorem Rv.weak{w:World}{U U':Nat->Prop}{ρ:Nat->Option Value}(hu:∀b,U' b->U b){c:AV}{v:Value}(h:Rv w U ρ c v):Rv w U' ρ c v:=
 h.mono (ae _) (λ_ _ _=>rfl) (λb _=>hu b) (λ_ _ h=>h)
def AO.owns:AO->Bool
 |.box _|.vec _ _|.fmap _|.vmap _ _=>Q3
 |_=>Q4
def fa:Value->Option Nat
 |.pointer (Q1 a)=>Q1 a.block
 |.slice (Q1 a) _ c=>if c=0 then Q2 else Q1 a.block
 |.map (Q1 r)=>Q1 r
 |_=>Q2
def aj(ρ:Nat->Option Value)(id:Nat)(o:AO)(b:Nat):Prop:=o.owns=Q3/\∃v,ρ id=Q1 v/\fa v=Q1 b
def dN(k:Int×Int×zB):Value:=.agg #[.int .i64 k.1,.int .i64 k.2.1,.string ⟨k.2.2.toArray⟩]
def iX(k:Int×Int×zB):Prop:=cq .i64 k.1/\cq .i64 k.2.1/\k.2.2.length<=aF
def lL(ents:Array MapEntry)(clock:Nat):Prop:=clock=ents.size/\∀(i:Nat)(e:MapEntry),ents[i]?=Q1 e->e.born=i
def uE(u:Bool)(n:Int):Value:=bif u then .agg #[]else .int .i64 n
def bA(w:World)(U:Nat->Prop)(ρ:Nat->Option Value)(id:Nat):AO->Prop
 |.dead=>True
 |.box cs=>∃b T vals,ρ id=Q1 (.pointer (Q1 ⟨b,0,Q2⟩))/\U b/\w.heap[b]?=Q1 (.cells vals T (0,0))/\du w U ρ cs vals.toList/\∀v∈vals.toList,v.oneCell'=Q3
 | .vec e l=>∃ a c,ρ id=Q1 (.slice a l.length c)∧l.length≤aF∧((l=[]∧c=0)∨∃ b T arr,a=Q1 ⟨b,0,Q2⟩∧0 < c∧U b∧w.heap[b]?=Q1 (.cells arr T (0,0))∧
   arr.size=c*e.size/\l.length<=c/\∀i(hi:i<l.length)(j:Nat)(c:AV),(zq e l[i])[j]?=Q1 c->∃v,arr[i*e.size+j]?=Q1 v/\Rv w U ρ c v)
 |.frz e l=>∃v,ρ id=Q1 v/\Rv w U ρ (.sl e l) v
 | .fmap es=>∃ r ents clock,ρ id=Q1 (.map (Q1 r))∧U r∧w.heap[r]?=Q1 (.map ents clock)∧du w U ρ (es.map (·.2)) (ents.toList.map (·.val))∧
   ents.toList.map (·.key)=es.map λp=>Value.string ⟨p.1.toArray⟩
 | .vmap u es=>∃ r ents clock,ρ id=Q1 (.map (Q1 r))∧U r∧w.heap[r]?=Q1 (.map ents clock)∧(ents.toList.map fun e=>(e.key,e.val))=(es.map fun p=>(dN p.1,uE u p.2))∧
   (∀p∈es,cq .i64 p.2/\iX p.1)/\lL ents clock
theorem bA.mono{w w':World}{U U':Nat->Prop}{ρ ρ':Nat->Option Value}(hs:w.heap.size<=w'.heap.size)
  (hk:∀b,b<w.heap.size->¬U b->w'.heap[b]?=w.heap[b]?) (hu:∀b,b<w.heap.size->U' b->U b) (hρ:∀id v,ρ id=Q1 v->ρ' id=Q1 v)
  {id:Nat} {o:AO} (h:bA w U ρ id o) (hown:∀b,aj ρ id o b->w'.heap[b]?=w.heap[b]?/\U' b):bA w' U' ρ' id o:=by
 cases o with
 |dead=>trivial
 | box cs=>
  obtain⟨b,T,vals,h1,h2,h3,h4,h5⟩:=h;have:=hown b ⟨rfl,_,h1,rfl⟩;exact⟨b,T,vals,hρ _ _ h1,this.2,by rw[this.1];exact h3,h4.mono hs hk hu hρ,h5⟩
 | vec e l=>
  obtain⟨a,c,h1,h2,h3⟩:=h;refine⟨a,c,hρ _ _ h1,h2,?_⟩;rcases h3 with h3|⟨b,T,arr,rfl,hc,hU,hb,hsz,hle,hr⟩
  ·exact .inl h3
  ·have:=hown b ⟨rfl,_,h1,by simp[fa];omega⟩;refine .inr ⟨b,T,arr,rfl,hc,this.2,by rw[this.1];exact hb,hsz,hle,λi hi j c hx=>?_⟩;obtain⟨v,hv,hrv⟩:=hr i hi j c hx;exact⟨v,hv,hrv.mono hs hk hu hρ⟩
 | frz e l=>
  obtain⟨v,h1,h2⟩:=h;exact⟨v,hρ _ _ h1,h2.mono hs hk hu hρ⟩
 | fmap es=>
  obtain⟨r,ents,clock,h1,h2,h3,h4,h5⟩:=h;have:=hown r ⟨rfl,_,h1,rfl⟩;exact⟨r,ents,clock,hρ _ _ h1,this.2,by rw[this.1];exact h3,h4.mono hs hk hu hρ,h5⟩
 | vmap u es=>
  obtain⟨r,ents,clock,h1,h2,h3,h4,h5⟩:=h;have:=hown r ⟨rfl,_,h1,rfl⟩;exact⟨r,ents,clock,hρ _ _ h1,this.2,by rw[this.1];exact h3,h4,h5⟩
theorem bA.inU{w:World}{U:Nat->Prop}{ρ:Nat->Option Value}{id:Nat}{o:AO}(h:bA w U ρ id o){b:Nat}(hb:aj ρ id o b):U b/\b<w.heap.size:=by
 obtain⟨ho,v,hv,hbv⟩:=hb;cases o with
 |dead=>simp[AO.owns]at ho
 |frz e l=>simp[AO.owns]at ho
 | box cs=>
  obtain⟨b',T,vals,h1,h2,h3,h4,h5⟩:=h;rw[h1]at hv;cases hv;simp[fa]at hbv;grind
 | vec e l=>
  obtain⟨a,c,h1,h2,h3⟩:=h;rw[h1]at hv;cases hv;rcases h3 with⟨_,rfl⟩|⟨b',T,arr,rfl,hc,hU,hb',_⟩
  ·cases a<;>simp[fa]at hbv
  ·simp[fa]at hbv;grind
 | fmap es=>
  obtain⟨r,ents,clock,h1,h2,h3,h4,h5⟩:=h;rw[h1]at hv;cases hv;simp[fa]at hbv;grind
 | vmap u es=>
  obtain⟨r,ents,clock,h1,h2,h3,h4,h5⟩:=h;rw[h1]at hv;cases hv;simp[fa]at hbv;grind
theorem zW:∀(s:Sh)(x:Sem s),(zq s x).length=s.size
 |.unit,_=>rfl
 |.bool,_=>rfl
 |.int _,_=>rfl
 |.str,_=>rfl
 |.sl _,_=>rfl
 |.pr a b,x=>by simp[zq,Sh.size,zW a,zW b]
 |.expr,_=>rfl
theorem Az{w:World}{U U':Nat->Prop}{ρ:Nat->Option Value}{hp:Nat->AO}{e:Sh}{c:AV}{l:List (Sem e)}{v:Value}
  (h:wI hp e c=Q1 l) (hr:Rv w U ρ c v) (hu:∀b,U' b->U b)
  (hob:∀id∈cO c,bA w U ρ id (hp id)) (hof:∀id∈cO c,∀b,aj ρ id (hp id) b->¬U' b):Rv w U' ρ (.sl e l) v:=by
 cases c<;>simp[wI]at h
 case nils=>
  subst h;cases hr;exact .sl0 e _ _
 case sl e' l'=>
  obtain⟨rfl,h⟩:=h;subst h;exact hr.weak hu
 case vec id=>
  cases hr with
  |vec _ _ hv _=>
  have h1:=hob id (by simp[cO]);have h2:=hof id (by simp[cO]);cases ho:hp id with
  |dead=>simp[ho]at h
  |box cs=>simp[ho]at h
  |fmap es=>simp[ho]at h
  |vmap u es=>simp[ho]at h
  | frz e' l'=>
   simp[ho]at h;obtain⟨rfl,h⟩:=h;subst h;rw[ho]at h1;obtain⟨v',hv',hrv⟩:=h1;rw[hv]at hv';cases hv';exact hrv.weak hu
  | vec e' l'=>
   simp[ho]at h;obtain⟨rfl,h⟩:=h;subst h;rw[ho]at h1 h2;obtain⟨a,c,hv',hm,h3⟩:=h1;rw[hv]at hv';cases hv';rcases h3 with⟨hl,hc⟩|⟨b,T,arr,rfl,hc,hU,hb,hsz,hle,hrr⟩
   ·show Rv w U' ρ (.sl e' l') _;subst hl;exact .sl0 e' _ _
   ·show Rv w U' ρ (.sl e' l') _;have hnb:¬U' b:=h2 b ⟨rfl,_,hv,by simp[fa];omega⟩;have hblt:=(dU.1 hb).1;refine .sl e' l' b 0 c (λi j=>(arr[i*e'.size+j]?).getD undef) hle hm hblt hnb (λi j hi hj=>?_) (λi hi j cc hx=>?_)
    ·have hlt:i*e'.size+j<arr.size:=by
      rw[hsz];have:(i+1)*e'.size<=c*e'.size:=g7 _ ow;rw[kN]at this;omega
     simp[World.cell?,hb,td hlt]
    ·obtain⟨v,hv1,hrv⟩:=hrr i hi j cc hx;simp[hv1];exact hrv.weak hu
theorem nV{w:World}{U U':Nat->Prop}{ρ:Nat->Option Value}{hp:Nat->AO}(hu:∀b,U' b->U b):
  ∀(s:Sh)(cs:List AV)(x:Sem s)(r:List AV)(vals:Nat->Value),cP hp s cs=Q1 (x,r)->
   (∀(j:Nat)(c:AV),cs[j]?=Q1 c->Rv w U ρ c (vals j))->(∀id∈cs.flatMap cO,bA w U ρ id (hp id)/\∀b,aj ρ id (hp id) b->¬U' b)->
   cs.length=s.size+r.length/\r=cs.drop s.size/\∀(j:Nat)(c:AV),(zq s x)[j]?=Q1 c->Rv w U' ρ c (vals j):=by
 intro s
 induction s with
 | unit=>
  intro cs x r vals h hr hob;simp[cP]at h;subst h;refine⟨by simp[Sh.size],by simp[Sh.size],by simp[zq]⟩
 | bool=>
  intro cs x r vals h hr hob;cases cs with
  |nil=>simp[cP]at h
  | cons c cs=>
   cases c<;>simp[cP]at h<;>(obtain⟨rfl,rfl⟩:=h)<;>refine⟨by simp[Sh.size];omega,by simp[Sh.size],?_⟩
   all_goals
    intro j c hj;cases j with
    |succ j=>simp[zq]at hj
    | zero=>
     simp[zq]at hj;subst hj;have:=hr 0 _ rfl;generalize vals 0=v at this;cases this;exact .bool _
 | int k=>
  intro cs x r vals h hr hob;cases cs with
  |nil=>simp[cP]at h
  | cons c cs=>
   cases c<;>simp[cP]at h
   obtain⟨rfl,rfl,rfl⟩:=h;refine⟨by simp[Sh.size];omega,by simp[Sh.size],?_⟩;intro j c hj;cases j with
   |succ j=>simp[zq]at hj
   | zero=>
    simp[zq]at hj;subst hj;exact(hr 0 _ rfl).weak hu
 | str=>
  intro cs x r vals h hr hob;cases cs with
  |nil=>simp[cP]at h
  | cons c cs=>
   cases c<;>simp[cP]at h
   obtain⟨rfl,rfl⟩:=h;refine⟨by simp[Sh.size];omega,by simp[Sh.size],?_⟩;intro j c hj;cases j with
   |succ j=>simp[zq]at hj
   | zero=>
    simp[zq]at hj;subst hj;exact(hr 0 _ rfl).weak hu
 | sl e ih=>
  intro cs x r vals h hr hob;cases cs with
  |nil=>simp[cP]at h
  | cons c cs=>
   simp only[cP]at h;split at h
   ·rename_i l hl;cases h;refine⟨by simp[Sh.size];omega,by simp[Sh.size],?_⟩;intro j c hj;cases j with
    |succ j=>simp[zq]at hj
    | zero=>
     simp[zq]at hj;subst hj;exact Az hl (hr 0 _ rfl) hu (λid hid=>(hob id (by simp[hid])).1) (λid hid=>(hob id (by simp[hid])).2)
   ·cases h
 | pr a b iha ihb=>
  intro cs x r vals h hr hob;simp only[cP]at h;split at h
  ·rename_i x1 r1 h1;split at h
   ·rename_i x2 r2 h2;cases h;obtain⟨l1,e1,g1⟩:=iha cs x1 r1 vals h1 hr hob;subst e1;obtain⟨l2,e2,g2⟩:=ihb _ x2 r (λj=>vals (a.size+j)) h2 (λj c hj=>by
      grind)
     (λid hid=>hob id (by
      grind))
    refine⟨?_,?_,?_⟩
    ·simp[Sh.size]at*;omega
    ·rw[e2,Fe];simp[Sh.size]
    ·intro j c hj;simp only[zq]at hj;by_cases hlt:j<a.size
     ·rw[mG (by rw[zW];exact hlt)]at hj;exact g1 j c hj
     ·rw[nG (by rw[zW];omega),zW]at hj;grind
   ·cases h
  ·cases h
 | expr=>
  intro cs x r vals h hr hob;simp only[cP]at h;unfold uS at h;split at h<;>try (cases h;done)
  rename_i op k i vs s c r';split at h
  ·rename_i l hl;cases h;refine⟨by simp[Sh.size];omega,by simp[Sh.size],?_⟩;intro j c' hj
   match j with
   |0=>simp[zq,ze.op]at hj;subst hj;exact(hr 0 _ rfl).weak hu
   |1=>simp[zq,ze.v]at hj;subst hj;exact(hr 1 _ rfl).weak hu
   |2=>simp[zq,ze.v]at hj;subst hj;exact(hr 2 _ rfl).weak hu
   |3=>simp[zq,ze.v]at hj;subst hj;exact(hr 3 _ rfl).weak hu
   |4=>simp[zq,ze.s]at hj;subst hj;exact(hr 4 _ rfl).weak hu
   | 5=>
    simp[zq,ze.l]at hj;subst hj;exact Az hl (hr 5 _ rfl) hu (λid hid=>(hob id (by simp[hid])).1) (λid hid=>(hob id (by simp[hid])).2)
   |j+6=>simp[zq]at hj
  ·cases h
@[simp] theorem Tr.val_bind {α β:Type} (t:Tr α) (k:α->Tr β):(t.bind k).val=t.val.bind λa=>(k a).val:=by
 induction t with
 |err=>rfl
 |chk c t ih=>cases c<;>simp[Tr.bind,Tr.val,ih]
 |br c t f iht ihf=>cases c<;>simp[Tr.bind,Tr.val,iht,ihf]
 |ok a=>rfl
@[simp] theorem Tr.val_err {α:Type}:(Tr.err:Tr α).val=Q2:=rfl
@[simp] theorem Tr.val_ok {α:Type} (a:α):(Tr.ok a).val=Q1 a:=rfl
@[simp] theorem Tr.val_chk {α:Type} (c:Bool) (t:Tr α) (a:α):(chk c t).val=Q1 a↔c=Q3/\t.val=Q1 a:=by cases c<;>simp[Tr.val]
@[simp] theorem znS (v:AV) (f:fT):(ret v).val=Q1 f↔f={val:=v}:=by simp[ret,eq_comm]
@[simp] theorem znK (v:Option AV) (f:fT):(EP v).val=Q1 f↔∃x,v=Q1 x/\f={val:=x}:=by
 cases v<;>simp[EP]
section
variable {P:Program} {w:World} {U:Nat->Prop} {ρ:Nat->Option Value}
theorem cM{t:TypeId}{n:Nat}(h:fR P t=Q1 n)(w:World):(Go.sizeOf t).run P w=.ok n w:=by
 unfold fR at h;cases hi:P.info? t with
 |none=>simp[hi]at h
 |some i=>simp[hi]at h;simp[Go.sizeOf,typeInfo,hi,h]
theorem jS{t:TypeId}{b:Bool}(h:Ei P t=Q1 b)(w:World):(isAgg t).run P w=.ok b w:=by
 unfold Ei at h;cases hu:P.underlying t with
 |none=>simp[hu]at h
 |some d=>cases d<;>simp[hu]at h<;>subst h<;>simp[isAgg,bz hu]
theorem Addr.add_none(b o n:Nat):(⟨b,o,Q2⟩:Addr).add n=⟨b,o+n,Q2⟩:=by
 unfold Addr.add;split<;>simp_all
theorem xS{n j k:Nat}(h:(List.range n)[j]?=Q1 k):j<n/\k=j:=by
 grind
theorem tT{t:TypeId}{cs:List AV}{off:Nat}{r:AV}{b o:Nat}{vals:Nat->Value}(h:sM P t cs off=Q1 r)
  (hcell:∀j,j<cs.length->w.cell? ⟨b,o+j,Q2⟩=Q1 (vals j)) (h1:∀j,j<cs.length->(vals j).oneCell'=Q3)
  (hr:∀(j:Nat)(c:AV),cs[j]?=Q1 c->Rv w U ρ c (vals j)):
  ∃x,(loadVar t ⟨b,o+off,Q2⟩).run P w=.ok x w/\Rv w U ρ r x:=by
 unfold sM at h;split at h
 ·rename_i n ha hn;split at h
  ·rename_i hle;cases h;refine⟨.agg ((List.range n).map λj=>vals (off+j)).toArray,?_,?_⟩
   ·have:=run_loadCells_list (P:=P) w ⟨b,o+off,Q2⟩ ((List.range n).map λj=>vals (off+j)) (λj v hv=>by
     rw[Addr.add_none];grind)
    simp only[di,List.length_range]at this;simp[loadVar,jS ha,cM hn,this]
   ·refine .agg _ _ sg (λv hv=>?_) (λj c v hc hv=>?_)
    ·grind
    grind
  ·cases h
 ·rename_i ha;have hlt:off<cs.length:=(dh.1 h).1;refine⟨vals off,?_,hr _ _ h⟩;simp[loadVar,jS ha,hcell off hlt]
 ·cases h
theorem Rv.sl_one{e:Sh}{l:List (Sem e)}{v:Value}(h:Rv w U ρ (.sl e l) v):v.oneCell'=Q3:=by
 cases h<;>rfl
theorem fL:∀(e:Sh)(x:Sem e)(j:Nat)(c:AV)(v:Value),(zq e x)[j]?=Q1 c->Rv w U ρ c v->v.oneCell'=Q3
 |.unit,_,_,_,_,h,_=>by simp[zq]at h
 |.bool,_,0,_,_,h,hr=>by simp[zq]at h;subst h;cases hr;rfl
 |.int _,_,0,_,_,h,hr=>by simp[zq]at h;subst h;cases hr;rfl
 |.str,_,0,_,_,h,hr=>by simp[zq]at h;subst h;cases hr;rfl
 |.sl _,_,0,_,_,h,hr=>by simp[zq]at h;subst h;cases hr<;>rfl
 |.bool,_,_+1,_,_,h,_=>by simp[zq]at h
 |.int _,_,_+1,_,_,h,_=>by simp[zq]at h
 |.str,_,_+1,_,_,h,_=>by simp[zq]at h
 |.sl _,_,_+1,_,_,h,_=>by simp[zq]at h
 | .pr a b,x,j,c,v,h,hr=>by
  simp only[zq]at h;rcases Nat.lt_or_ge j (zq a x.1).length with hl|hl
  ·rw[mG hl]at h;exact fL a _ _ _ _ h hr
  ·rw[nG hl]at h;exact fL b _ _ _ _ h hr
 | .expr,x,j,c,v,h,hr=>by
  match j with
  |0=>simp[zq]at h;subst h;cases hr;rfl
  |1=>simp[zq]at h;subst h;cases hr;rfl
  |2=>simp[zq]at h;subst h;cases hr;rfl
  |3=>simp[zq]at h;subst h;cases hr;rfl
  |4=>simp[zq]at h;subst h;cases hr;rfl
  |5=>simp[zq]at h;subst h;exact hr.sl_one
  |_+6=>simp[zq]at h
theorem gT{av:AV}{cs:List AV}{v:Value}(h:cellsOf av=Q1 cs)(hr:Rv w U ρ av v):
  du w U ρ cs v.cells.toList/\∀x∈v.cells.toList,x.oneCell'=Q3:=by
 have one:∀{av:AV},v.oneCell'=Q3->Rv w U ρ av v->du w U ρ [av] v.cells.toList/\∀x∈v.cells.toList,x.oneCell'=Q3:=by
  intro av h1 hr;have:v.cells=#[v]:=by cases v<;>simp[Value.oneCell']at h1<;>rfl
  rw[this];refine⟨⟨rfl,λj c x hc hx=>?_⟩,by simpa using h1⟩;cases j with
  |zero=>simp_all
  |succ j=>simp at hc
 cases hr with
 |any v=>simp[cellsOf]at h
 |tup cs vs hl hr=>simp[cellsOf]at h
 | agg cs' vs hl h1 hr=>
  simp[cellsOf]at h;subst h;exact⟨⟨by simp[Value.cells,hl],λj c v hc hv=>hr j c v hc (by simpa[Value.cells]using hv)⟩,by simpa[Value.cells]using h1⟩
 |kb b=>simp[cellsOf]at h;subst h;exact one rfl (.kb b)
 |bool b=>simp[cellsOf]at h;subst h;exact one rfl (.bool b)
 |int k n hk=>simp[cellsOf]at h;subst h;exact one rfl (.int k n hk)
 |str s hs=>simp[cellsOf]at h;subst h;exact one rfl (.str s hs)
 |nils a=>simp[cellsOf]at h;subst h;exact one rfl (.nils a)
 |sl0 e a c=>simp[cellsOf]at h;subst h;exact one rfl (.sl0 e a c)
 |sl e l b o c vals hc hm hb hU hcell hr=>simp[cellsOf]at h;subst h;exact one rfl (.sl e l b o c vals hc hm hb hU hcell hr)
 |vec id v hv h1=>simp[cellsOf]at h;subst h;exact one h1 (.vec id v hv h1)
 |ptr id off b hb=>simp[cellsOf]at h;subst h;exact one rfl (.ptr id off b hb)
 |vptr id sz i off b n c hb=>simp[cellsOf]at h;subst h;exact one rfl (.vptr id sz i off b n c hb)
 |eptr cs off b o vals hb hU hcell h1 hr=>simp[cellsOf]at h;subst h;exact one rfl (.eptr cs off b o vals hb hU hcell h1 hr)
 |nilp=>simp[cellsOf]at h;subst h;exact one rfl .nilp
 |clo fn fs cs vf vc hf hc hrf hrc=>simp[cellsOf]at h;subst h;exact one rfl (.clo fn fs cs vf vc hf hc hrf hrc)
 |nilf=>simp[cellsOf]at h;subst h;exact one rfl .nilf
 |mp id v hv h1=>simp[cellsOf]at h;subst h;exact one h1 (.mp id v hv h1)
 |ifcN=>simp[cellsOf]at h;subst h;exact one rfl .ifcN
 |ifcS t v=>simp[cellsOf]at h;subst h;exact one rfl (.ifcS t v)
 |tab k zs b T fr hb hU=>simp[cellsOf]at h;subst h;exact one rfl (.tab k zs b T fr hb hU)
 |gint m b T fr hm hb hU=>simp[cellsOf]at h;subst h;exact one rfl (.gint m b T fr hm hb hU)
theorem QA{b:Nat}{vals:Array Value}{T:TypeId}{fz:Nat×Nat}(h:w.heap[b]?=Q1 (.cells vals T fz))(j:Nat)(hj:j<vals.size):
  w.cell? ⟨b,j,Q2⟩=Q1 (vals.toList.getD j undef):=by
 simp[World.cell?,h,td hj,List.getD]
theorem F0{hp:Nat->AO}{t:TypeId}{av:AV}{v:Value}{f:fT}(h:(Hw P hp t av).val=Q1 f)(hv:Rv w U ρ av v)
  (hob:∀id∈av.ids,bA w U ρ id (hp id)):∃r x,f={val:=r}/\(Instr.loadAt t v).run P w=.ok x w/\Rv w U ρ r x:=by
 unfold Hw at h;split at h
 ·rename_i id off;cases hv with
  |ptr _ _ b hb=>
  have ho:=hob id (by simp[AV.ids]);split at h
  ·rename_i cs hcs;rw[hcs]at ho;obtain⟨b',T,vals,h1,h2,h3,h4,h5⟩:=ho;rw[hb]at h1;cases h1;simp at h;obtain⟨r,hr,rfl⟩:=h
   obtain⟨x,hx,hrx⟩:=tT (w:=w) (U:=U) (ρ:=ρ) (b:=b) (o:=0) (vals:=λj=>vals.toList.getD j undef) hr
    (λj hj=>by rw[jJ];exact QA h3 j (by rw[h4.len]at hj;simpa using hj))
    (λj hj=>h5 _ (by
     rw[h4.len]at hj;simp_all))
    (λj c hc=>h4.rv j c _ hc (by
     have hj:j<vals.toList.length:=by rw[<-h4.len];exact(dh.1 hc).1
     simp_all))
   rw[jJ]at hx;exact⟨r,x,rfl,by simp[Instr.loadAt,Instr.sureAddr,hx],hrx⟩
  ·simp at h
 ·rename_i cs off;cases hv with
  |eptr _ _ b o vals hb hU hcell h1 hr=>
  simp at h;obtain⟨r,hrr,rfl⟩:=h;obtain⟨x,hx,hrx⟩:=tT (w:=w) (U:=U) (ρ:=ρ) hrr hcell h1 hr;exact⟨r,x,rfl,by simp[Instr.loadAt,Instr.sureAddr,hx],hrx⟩
 ·rename_i id sz i off;cases hv with
  |vptr _ _ _ _ b n c hb=>
  have ho:=hob id (by simp[AV.ids]);split at h
  ·rename_i e l hcs;rw[hcs]at ho;obtain⟨a,c',h1,hm,h3⟩:=ho;rw[hb]at h1;cases h1;split at h
   ·rename_i hsz;subst hsz;simp at h;obtain⟨hi,r,hr,rfl⟩:=h;rcases h3 with⟨rfl,_⟩|⟨b',T,arr,hba,hc,hU,hbb,hsz,hle,hrr⟩
    ·simp at hi
    ·cases hba;have hget:l[i]?.getD (zj e)=l[i]:=by simp[zQ hi]
     rw[hget]at hr;have hcells:∀j,j<(zq e l[i]).length->∃v c,arr[i*e.size+j]?=Q1 v/\(zq e l[i])[j]?=Q1 c/\Rv w U ρ c v:=by
      intro j hj;obtain⟨v,h1,h2⟩:=hrr i hi j _ (zQ hj);exact⟨v,_,h1,zQ hj,h2⟩
     obtain⟨x,hx,hrx⟩:=tT (w:=w) (U:=U) (ρ:=ρ) (b:=b) (o:=i*e.size) (vals:=λj=>(arr[i*e.size+j]?).getD undef) hr
      (λj hj=>by
       obtain⟨v,c,h1,h2,h3⟩:=hcells j hj;simp[World.cell?,hbb,h1])
      (λj hj=>by
       obtain⟨v,c,h1,h2,h3⟩:=hcells j hj;simp only[h1,dp];exact fL _ _ _ _ _ h2 h3)
      (λj c hc=>by
       grind)
     exact⟨r,x,rfl,by simp[Instr.loadAt,Instr.sureAddr,hx],hrx⟩
   ·simp at h
  ·simp at h
 ·simp at h
theorem MK{t:TypeId}{fl:Nat}{av:AV}{v:Value}{f:fT}(h:(Hu P t fl av).val=Q1 f)(hv:Rv w U ρ av v):
  ∃r x,f={val:=r}/\(Instr.fieldAt t v fl).run P w=.ok x w/\Rv w U ρ r x:=by
 unfold Hu at h;split at h
 ·rename_i fd hfd;unfold AK at hfd;split at hfd
  ·rename_i fs hu;split at h
   ·rename_i k hk;have hplace:∀a:Addr,(fieldPlace a fd).run P w=.ok (a.add fd.offset) w:=by
     intro a;simp[fieldPlace,cM hk]
    split at h
    ·rename_i id off;cases hv with
     |ptr _ _ b hb=>
     simp at h;subst h;exact⟨_,_,rfl,by simp[Instr.fieldAt,bz hu,hfd,Instr.sureAddr,hplace,Addr.add_none],.ptr id (off+fd.offset) b hb⟩
    ·rename_i cs off;cases hv with
     |eptr _ _ b o vals hb hU hcell h1 hr=>
     simp at h;subst h;refine⟨_,_,rfl,by simp[Instr.fieldAt,bz hu,hfd,Instr.sureAddr,hplace,Addr.add_none];rfl,?_⟩;rw[Nat.add_assoc];exact .eptr cs (off+fd.offset) b o vals hb hU hcell h1 hr
    ·rename_i id sz i off;cases hv with
     |vptr _ _ _ _ b n c hb=>
     simp at h;subst h;refine⟨_,_,rfl,by simp[Instr.fieldAt,bz hu,hfd,Instr.sureAddr,hplace,Addr.add_none];rfl,?_⟩;rw[Nat.add_assoc];exact .vptr id sz i (off+fd.offset) b n c hb
    ·simp at h
   ·simp at h
  ·cases hfd
 ·simp at h
theorem lV{k:Int}{n:Nat}:zO k n=Q3↔0<=k/\k<n:=by simp[zO]
theorem Oh{k:Int}{g:Nat->AV}{e:fT}:∀(n i:Nat),(Qn k g i n).val=Q1 e->(i:Int)<=k->k<i+n->e={val:=g k.toNat}
 |0,_,h,_,_=>by simp[Qn]at h
 | 1,i,h,h1,h2=>by
  have:k.toNat=i:=by omega
  simp[Qn]at h;simp_all
 | n+2,i,h,h1,h2=>by
  rw[Qn,Tr.val]at h;split at h
  ·simp_all
  ·rename_i hk;have hk:k≠i:=by simpa using hk
   exact Oh (n+1) (i+1) h ow ow
theorem Cr{hp:Nat->AO}{t:TypeId}{ax ai:AV}{vx vi:Value}{f:fT}(h:(pH P hp t ax ai).val=Q1 f)
  (hx:Rv w U ρ ax vx) (hi:Rv w U ρ ai vi) (hob:∀id∈ax.ids,bA w U ρ id (hp id)):
  ∃r x,f={val:=r}/\(Instr.indexAt t vx vi).run P w=.ok x w/\Rv w U ρ r x:=by
 have pure_sl:∀(e:Sh)(l:List (Sem e))(k:Int)(ik:IntKind)(elem:TypeId),P.underlying t=Q1 (.slice elem)->fR P elem=Q1 e.size->0<=k->k<l.length->
   Rv w U ρ (.sl e l) vx->∃x,(Instr.indexAt t vx (.int ik k)).run P w=.ok x w/\Rv w U ρ (.eptr (zq e (l.getD k.toNat (zj e))) 0) x:=by
  intro e l k ik elem hu hsz h0 h1 hr;cases hr with
  |sl0 _ a c=>simp at h1;omega
  | sl _ _ b o c vals hc hm hb hU hcell hrr=>
   have hlt:k.toNat<l.length:=by omega
   refine⟨.pointer (Q1 ⟨b,o+k.toNat*e.size+0,Q2⟩),?_,?_⟩
   ·simp[Instr.indexAt,asIntOf,bz hu,h0,h1,cM hsz,Addr.add_none]
   ·have hget:l.getD k.toNat (zj e)=l[k.toNat]:=by simp[List.getD,zQ hlt]
    rw[hget]
    exact .eptr _ 0 b (o+k.toNat*e.size) (λj=>vals k.toNat j) hb hU (λj hj=>hcell _ _ hlt (by rwa [zW]at hj))
     (λj hj=>fL _ _ j _ _ (zQ hj) (hrr _ hlt j _ (zQ hj))) (λj c hc=>hrr _ hlt j c hc)
 unfold pH at h;split at h
 ·rename_i ik k;cases hi;split at h
  ·rename_i elem hu;split at h
   ·rename_i e l;split at h
    ·rename_i hsz;simp[lV]at h;simp_all
    ·simp at h
   ·rename_i id;have ho:=hob id (by simp[AV.ids]);split at h
    ·rename_i e l hcs;rw[hcs]at ho;split at h
     ·rename_i hsz;simp[lV]at h;obtain⟨⟨h0,h1⟩,rfl⟩:=h;obtain⟨a,c',hr,hm,h3⟩:=ho;cases hx with
      |vec _ _ hv _=>
      rw[hr]at hv;cases hv;rcases h3 with⟨rfl,_⟩|⟨b',T,arr,rfl,hc,hU,hbb,hsz',hle,hrr⟩
      ·simp at h1;omega
      ·refine⟨_,.pointer (Q1 ⟨b',k.toNat*e.size+0,Q2⟩),rfl,?_,.vptr id e.size k.toNat 0 b' _ _ hr⟩;simp[Instr.indexAt,asIntOf,bz hu,h0,h1,cM hsz,Addr.add_none]
     ·simp at h
    ·rename_i e l hcs;rw[hcs]at ho;split at h
     ·rename_i hsz;simp[lV]at h;obtain⟨⟨h0,h1⟩,rfl⟩:=h;obtain⟨v',hv',hrv⟩:=ho;cases hx with
      |vec _ _ hv _=>
      simp_all
     ·simp at h
    ·simp at h
   ·simp at h
  ·rename_i len elem hu;split at h
   ·rename_i sz hsz;split at h
    ·rename_i id off;simp[lV]at h;obtain⟨⟨h0,h1⟩,rfl⟩:=h;cases hx with
     |ptr _ _ b hb=>
     refine⟨_,_,rfl,?_,.ptr id (off+k.toNat*sz) b hb⟩;simp[Instr.indexAt,asIntOf,bz hu,h0,h1,cM hsz,Addr.add_none,Instr.sureAddr]
    ·rename_i cs off;simp only[Tr.val]at h;split at h;rotate_left
     ·cases h
     rename_i hin;obtain⟨h0,h1⟩:=lV.1 hin;have h:=Oh _ _ h ow ow;subst h;cases hx with
     |eptr _ _ b o vals hb hU hcell hone hr=>
     refine⟨_,.pointer (Q1 ⟨b,o+(off+k.toNat*sz),Q2⟩),rfl,?_,.eptr cs (off+k.toNat*sz) b o vals hb hU hcell hone hr⟩;simp[Instr.indexAt,asIntOf,bz hu,h0,h1,cM hsz,Addr.add_none,Instr.sureAddr,Nat.add_assoc]
    ·simp at h
   ·simp at h
  ·simp at h
 ·simp at h
end
section
variable {P:Program} {w:World} {U:Nat->Prop} {ρ:Nat->Option Value}
theorem Ri{k:IntKind}{n:Int}(h:MX k n=Q3):cq k n:=by
 cases k<;>simp[MX]at h<;>simp[cq,IntKind.min,IntKind.max,IntKind.signed,IntKind.bits]<;>omega
theorem Oe(v:Value):Rv w U ρ (JA v) v:=by
 unfold JA;split
 ·exact .kb _
 ·split
  ·rename_i h;exact .int _ _ (Ri h)
  ·exact .any _
 ·rename_i s;split
  ·rename_i h;have:s=⟨s.data.toList.toArray⟩:=by cases s;simp
   have h2:s.data.toList.length<=aF:=by unfold aF;omega
   have:=Rv.str (w:=w) (U:=U) (ρ:=ρ) s.data.toList h2;simpa using this
  ·exact .any _
 ·exact .nils _
 ·exact .nilp
 ·exact .nilf
 ·exact .ifcN
 ·exact .any _
theorem ZQ(v:Value):znr v=v.oneCell':=by cases v<;>rfl
theorem qH(v:Value):Rv w U ρ (BB v) v:=by
 unfold BB;split
 ·rename_i cs;split
  ·rename_i h;have:=Rv.agg (w:=w) (U:=U) (ρ:=ρ) (cs.toList.map JA) cs.toList sw (λv hv=>by
    rw[<-ZQ];exact ei.1 h v hv) (λj c v hc hv=>by
    simp only[fA,eD]at hc;obtain⟨v',hv',rfl⟩:=hc;rw[hv]at hv';cases hv';exact Oe v)
   simpa using this
  ·exact .any _
 ·exact Oe _
theorem oK(k:IntKind)(n:Int):cq k (k.wrap n):=by
 cases k<;>simp[cq,IntKind.min,IntKind.max,IntKind.signed,IntKind.bits,IntKind.wrap]<;>(try split)<;>omega
theorem CY{c:Bool}{x y z:AV}{v:Value}(h:rc c x y=Q1 z)(hr:Rv w U ρ (if c then x else y) v):Rv w U ρ z v:=by
  unfold rc at h;split at h
  all_goals first
    |(cases h;cases c<;>simp at hr⊢<;>cases hr<;>first|exact .bool _|exact .str _ ‹_›)
    | (split at h
       · rename_i hk;subst hk;cases h;cases c<;>simp at hr⊢<;>exact hr
       · cases h)
    |cases h
theorem C8{t:TypeId}{cs:List AV}{off:Nat}{r:AV}{vs:List Value}(h:sM P t cs off=Q1 r)
  (hl:cs.length=vs.length) (h1:∀v∈vs,v.oneCell'=Q3) (hr:∀(j:Nat)(c:AV)(v:Value),cs[j]?=Q1 c->vs[j]?=Q1 v->Rv w U ρ c v):
  ∃x,(part t vs.toArray off).run P w=.ok x w/\Rv w U ρ r x:=by
 unfold sM at h;split at h
 ·rename_i n ha hn;split at h
  ·rename_i hle;cases h;refine⟨.agg (vs.toArray.extract off (off+n)),by simp[part,jS ha,cM hn],?_⟩;have he:vs.toArray.extract off (off+n)=((vs.drop off).take n).toArray:=by
    apply ml;simp[List.extract_eq_take_drop]
   rw[he];refine .agg _ _ (by simp[hl]) (λv hv=>h1 v (List.mem_of_mem_drop (List.mem_of_mem_take hv))) (λj c v hc hv=>?_);grind
  ·cases h
 ·rename_i ha;have hlt:off<cs.length:=(dh.1 h).1;have hv:vs[off]?=Q1 vs[off]:=zQ ow;refine⟨vs[off],?_,hr _ _ _ h hv⟩;simp[part,jS ha,hv]
 ·cases h
theorem zaf(s:zB)(i:Nat)(h:i<s.length):(⟨s.toArray⟩:ByteArray)[i]?=Q1 (s.getD i 0):=by
 have h':i<(⟨s.toArray⟩:ByteArray).size:=by simpa[ByteArray.size]using h
 rw[getElem?_pos _ i h'];simp[List.getD,zQ h];rfl
theorem ML{t:TypeId}{ax ai:AV}{vx vi:Value}{f:fT}(h:(Hv P t ax ai).val=Q1 f)
  (hx:Rv w U ρ ax vx) (hi:Rv w U ρ ai vi):∃r x,f={val:=r}/\(Instr.index t vx vi).run P w=.ok x w/\Rv w U ρ r x:=by
 unfold Hv at h;split at h
 ·rename_i ik k;cases hi;split at h
  ·rename_i s hu;simp[lV]at h;obtain⟨⟨h0,h1⟩,rfl⟩:=h;cases hx with
   |str _ hs=>
   have hlt:k.toNat<s.length:=by omega
   refine⟨_,.int .u8 (s.getD k.toNat 0).toNat,rfl,?_,?_⟩
   ·simp[Instr.index,asIntOf,bz hu,h0,zaf s _ hlt]
   ·rw[ba];refine .int _ _ ?_;have:=(s[k.toNat]?.getD 0).toNat_lt;simp[cq,IntKind.min,IntKind.max,IntKind.signed,IntKind.bits];omega
  ·rename_i len elem cs hu;split at h
   ·rename_i sz hsz;split at h
    ·rename_i r hp;simp[lV]at h;obtain⟨⟨h0,h1⟩,rfl⟩:=h;cases hx with
     |agg _ vs hl hone hr=>
     obtain⟨x,hx,hrx⟩:=C8 (w:=w) (U:=U) (ρ:=ρ) hp hl hone hr;exact⟨r,x,rfl,by simp[Instr.index,asIntOf,bz hu,h0,h1,cM hsz,hx],hrx⟩
    ·simp at h
   ·simp at h
  ·simp at h
 ·simp at h
theorem Gf(n:Nat)(hn:n<=aF):cq .i64 (n:Int):=by
 unfold aF at hn;simp[cq,IntKind.min,IntKind.max,IntKind.signed,IntKind.bits];omega
theorem IS{e:Sh}{l:List (Sem e)}{v:Value}(hr:Rv w U ρ (.sl e l) v):∃a c,v=.slice a l.length c/\l.length<=aF/\l.length<=c:=by
 cases hr with
 |sl0 _ a c=>exact⟨a,c,rfl,sw,sw⟩
 |sl _ _ b o c vals hc hm hb hU hcell hrr=>exact⟨_,_,rfl,hm,hc⟩
theorem D4(s:zB):(⟨s.toArray⟩:ByteArray).size=s.length:=by simp[ByteArray.size]
theorem TW{hp:Nat->AO}{t:TypeId}{ax:AV}{vx:Value}{ty:TypeId}{f:fT}(h:(TV P hp t ax).val=Q1 f)(hx:Rv w U ρ ax vx)
  (hob:∀id∈ax.ids,bA w U ρ id (hp id)):
  ∃r x,f={val:=r}/\(Builtin.len_ #[t] ty #[vx]).run P w=.ok x w/\Rv w U ρ r x:=by
 unfold TV at h;split at h
 ·rename_i hu;split at h
  ·rename_i s;simp at h;subst h;cases hx with
   |str _ hs=>exact⟨_,.int .i64 s.length,rfl,by simp[Builtin.len_,bz hu,goInt,D4],.int _ _ (Gf _ hs)⟩
  ·simp at h
 ·rename_i e0 hu;split at h
  ·simp at h;subst h;cases hx;exact⟨_,_,rfl,by simp[Builtin.len_,bz hu,goInt],.int _ _ (Gf 0 sw)⟩
  ·rename_i e l;simp at h;subst h;obtain⟨a,c,rfl,hm,_⟩:=IS hx;exact⟨_,_,rfl,by simp[Builtin.len_,bz hu,goInt],.int _ _ (Gf _ hm)⟩
  ·rename_i id;have ho:=hob id (by simp[AV.ids]);cases hx with
   |vec _ _ hv _=>
   split at h
   ·rename_i e l hcs;rw[hcs]at ho;obtain⟨a,c',hr,hm,h3⟩:=ho;rw[hr]at hv;cases hv;simp at h;subst h;exact⟨_,_,rfl,by simp[Builtin.len_,bz hu,goInt],.int _ _ (Gf _ hm)⟩
   ·rename_i e l hcs;rw[hcs]at ho;obtain⟨v',hv',hrv⟩:=ho;rw[hv]at hv';cases hv';obtain⟨a,c,rfl,hm,_⟩:=IS hrv;simp at h;subst h;exact⟨_,_,rfl,by simp[Builtin.len_,bz hu,goInt],.int _ _ (Gf _ hm)⟩
   ·simp at h
  ·simp at h
 ·rename_i kt et hu;split at h
  ·rename_i id;have ho:=hob id (by simp[AV.ids]);cases hx with
   |mp _ _ hv _=>
   split at h
   ·rename_i u es hcs;rw[hcs]at ho;obtain⟨r,ents,clock,h1,h2,h3,h4,h5⟩:=ho;rw[h1]at hv;cases hv;simp at h;obtain⟨hlen,rfl⟩:=h;have hl:ents.size=es.length:=by have:=congrArg List.length h4;simpa using this
    exact⟨_,.int .i64 es.length,rfl,by simp[Builtin.len_,bz hu,goInt,kM h3,hl,Result.andThen],.int _ _ (Gf _ um)⟩
   ·simp at h
  ·simp at h
 ·simp at h
theorem TT{d:Nat}{t:TypeId}{x y:AV}{r:Bool}{a b:Value}(h:eqT P t x y=Q1 r)(ha:Rv w U ρ x a)(hb:Rv w U ρ y b):
  (Op.equalIn (d+1) t a b).run P w=.ok r w:=by
 unfold eqT at h;split at h
 ·rename_i hu;split at h
  ·rename_i hkk;subst hkk;cases h;cases ha;cases hb;exact run_equalIn_int w d t _ _ _ _ hu
  ·cases h
 ·rename_i hu;cases h;cases ha;cases hb;rw[run_equalIn_string w d t _ _ hu];simp
 all_goals first
  |(rename_i hu;cases h;cases ha;cases hb;exact run_equalIn_bool w d t _ _ hu)
  |cases h
theorem Y7{t:TypeId}{x y:AV}{r:Bool}(h:eqT P t x y=Q1 r):Ei P t=Q1 Q4:=by
 unfold eqT at h;split at h<;>simp_all[Ei]
theorem OG{d:Nat}:∀(fs:List Field)(i:Nat)(xs ys:List AV)(r:Bool)(vx vy:Array Value),EG P fs i xs ys=Q1 r->
  (∀(j:Nat) c,xs[j]?=Q1 c->∃v,vx[i+j]?=Q1 v/\Rv w U ρ c v)->(∀(j:Nat) c,ys[j]?=Q1 c->∃v,vy[i+j]?=Q1 v/\Rv w U ρ c v)->
  (Op.eqFields (d+1) vx vy fs).run P w=.ok r w
 | [],i,[],[],r,vx,vy,h,_,_=>by
  simp[EG]at h;subst h;simp[Op.eqFields]
 | f :: fs,i,a::xs,b::ys,r,vx,vy,h,hx,hy=>by
  simp only[EG]at h;split at h
  ·rename_i hc;simp at hc;obtain⟨hn,ho⟩:=hc;split at h
   ·rename_i r1 s1 h1 h2;cases h;obtain⟨va,hva,hra⟩:=hx 0 a rfl;obtain⟨vb,hvb,hrb⟩:=hy 0 b rfl;have hpart:∀(vz:Array Value)(v:Value),vz[i+0]?=Q1 v->(part f.type vz f.offset).run P w=.ok v w:=by
     intro vz v hv;rw[yw]at hv;simp[part,jS (Y7 h1),ho,hv]
    have ih:=OG (d:=d) fs (i+1) xs ys s1 vx vy h2 (λj c hj=>by
      obtain⟨v,hv,hr⟩:=hx (j+1) c hj;grind)
     (λj c hj=>by
      obtain⟨v,hv,hr⟩:=hy (j+1) c hj;grind)
    simp only[Op.eqFields,ne_eq,hn,not_false_eq_true,if_true,cF,hpart vx va hva,hpart vy vb hvb,pm,TT h1 hra hrb,Sem.run_ite,pk,ih];cases r1<;>simp
   ·cases h
  ·cases h
 |[],_,_::_,_,_,_,_,h,_,_=>by simp[EG]at h
 |[],_,[],_::_,_,_,_,h,_,_=>by simp[EG]at h
 |_::_,_,[],_,_,_,_,h,_,_=>by simp[EG]at h
 |_::_,_,_::_,[],_,_,_,h,_,_=>by simp[EG]at h
theorem MF{t:TypeId}{x y:AV}{r:Bool}{a b:Value}(h:eqA P t x y=Q1 r)(ha:Rv w U ρ x a)(hb:Rv w U ρ y b)
  (hni:∀k n k' n',x=.int k n->y=.int k' n'->False) (hns:∀s s',x=.str s->y=.str s'->False):
  (Op.equal t a b).run P w=.ok r w/\(∀op p q,(eqGuard op t p q a b).run P w=.ok () w)/\((∃c d,a=.bool c/\b=.bool d)\/∃c d,a=.agg c/\b=.agg d):=by
 unfold eqA at h;split at h
 ·rename_i a' b';cases ha with
  |agg _ vs hl h1 hr=>
  cases hb with
  |agg _ vs' hl' h1' hr'=>
  split at h
  ·rename_i fs hu;split at h
   ·rename_i hc;simp at hc;obtain⟨hs,hg⟩:=hc;refine⟨?_,λop p q=>run_eqGuard_agg w op t p q _ _ hg,.inr ⟨_,_,rfl,rfl⟩⟩;have hf:P.fieldsOf t=fs:=by simp[Program.fieldsOf,hu]
    show(Op.equalIn (9999+1) t _ _).run P w=_;rw[run_equalIn_struct w 9999 t _ _ (by rw[hf];exact hu) hs,hf];refine OG (U:=U) (ρ:=ρ) (d:=9998) fs.toList 0 a' b' r _ _ h (λj c hj=>?_) (λj c hj=>?_)
    ·have hlt:j<vs.length:=by rw[<-hl];exact(dh.1 hj).1
     exact⟨vs[j],by simp[zQ hlt],hr j c _ hj (zQ hlt)⟩
    ·have hlt:j<vs'.length:=by rw[<-hl'];exact(dh.1 hj).1
     exact⟨vs'[j],by simp[zQ hlt],hr' j c _ hj (zQ hlt)⟩
   ·cases h
  ·cases h
 ·have h':=h;unfold eqT at h;split at h
  ·exact absurd (hni _ _ _ _ rfl rfl) id
  ·exact absurd (hns _ _ rfl rfl) id
  all_goals first
   |(cases h;have h2:=TT (d:=9999) h' ha hb;cases ha;cases hb;exact⟨h2,λop p q=>by cases op<;>simp[eqGuard],.inl ⟨_,_,rfl,rfl⟩⟩)
   |cases h
theorem Yz{op:BinOp}{t:TypeId}{x y:AV}{a b:Value}{f:fT}(p q:Operand)(h:(zeU P op t x y).val=Q1 f)(ha:Rv w U ρ x a)(hb:Rv w U ρ y b)
  (hni:∀k n k' n',x=.int k n->y=.int k' n'->False) (hns:∀s s',x=.str s->y=.str s'->False):
  ∃r z,f={val:=r}/\(do eqGuard op t p q a b;binOp op t a b:Go.Sem Value).run P w=.ok z w/\Rv w U ρ r z:=by
 unfold zeU at h;split at h
 ·split at h
  ·rename_i r hr;simp at h;subst h;obtain⟨h1,h2,h3⟩:=MF hr ha hb hni hns;refine⟨_,.bool r,rfl,?_,.bool r⟩;rw[cF,h2];rcases h3 with⟨c,d,rfl,rfl⟩|⟨c,d,rfl,rfl⟩<;>simp[binOp,h1]
  ·simp at h
 ·split at h
  ·rename_i r hr;simp at h;subst h;obtain⟨h1,h2,h3⟩:=MF hr ha hb hni hns;refine⟨_,.bool (!r),rfl,?_,.bool (!r)⟩;rw[cF,h2];rcases h3 with⟨c,d,rfl,rfl⟩|⟨c,d,rfl,rfl⟩<;>simp[binOp,h1]
  ·simp at h
 ·simp at h
theorem PN{k:IntKind}{a b:Int}(ha:cq k a)(hb:cq k b)(h0:b≠0):k.wrap (a.tmod b)=a.tmod b:=by
 have h1:=Int.tmod_lt_of_pos;have:(a.tmod b).natAbs<b.natAbs:=by
  rw[Int.natAbs_tmod];exact Nat.mod_lt _ ow
 have hs:0<=a->0<=a.tmod b:=λh=>Int.tmod_nonneg b h
 cases k<;>simp[cq,IntKind.min,IntKind.max,IntKind.signed,IntKind.bits]at ha hb<;>simp[IntKind.wrap,IntKind.signed,IntKind.bits]<;>(try split)<;>omega
theorem Ze{k:IntKind}{a:Int}(h:cq k a):cq k (a/2):=by
 obtain⟨h1,h2⟩:=h;cases k<;>(simp only[cq,IntKind.min,IntKind.max,IntKind.signed,IntKind.bits]at h1 h2⊢;simp at h1 h2⊢;omega)
theorem YA{op:BinOp}{t:TypeId}{k:IntKind}{a b:Int}{f:fT}(p q:Operand)(h:(zeV op k a b).val=Q1 f)(ha:cq k a)(hb:cq k b):
  ∃r z,f={val:=r}/\(do eqGuard op t p q (.int k a) (.int k b);binOp op t (.int k a) (.int k b):Go.Sem Value).run P w=.ok z w/\Rv w U ρ r z:=by
 have hg:∀op,(eqGuard op t p q (.int k a) (.int k b)).run P w=.ok () w:=by intro op;cases op<;>simp[eqGuard]
 unfold zeV at h;split at h
 ·simp at h;subst h;exact⟨_,_,rfl,by rw[cF,hg];simp[binOp,Op.intArith],.int _ _ (oK _ _)⟩
 ·simp at h;subst h;exact⟨_,_,rfl,by rw[cF,hg];simp[binOp,Op.intArith],.int _ _ (oK _ _)⟩
 ·simp at h;subst h;exact⟨_,_,rfl,by rw[cF,hg];simp[binOp,Op.intArith],.int _ _ (oK _ _)⟩
 ·simp at h;obtain⟨h0,rfl⟩:=h;exact⟨_,_,rfl,by rw[cF,hg];simp[binOp,Op.intDiv,h0],.int _ _ (oK _ _)⟩
 ·simp at h;obtain⟨h0,rfl⟩:=h;refine⟨_,.int k (a.tmod b),rfl,by rw[cF,hg];simp[binOp,Op.intDiv,h0],?_⟩;rw[PN ha hb h0];exact .int _ _ (by rw[<-PN ha hb h0];exact oK _ _)
 ·simp at h;obtain⟨h0,rfl⟩:=h;subst h0;refine⟨_,.int k (a/2),rfl,?_,.int _ _ (Ze ha)⟩;have hk:min 1 k.bits=1:=by cases k<;>rfl
  have hd:a.fdiv 2=a/2:=by rw[Int.fdiv_eq_ediv_of_nonneg];omega
  rw[cF,hg];simp[binOp,Op.shift,hk,hd]
 all_goals first
  |(simp at h;subst h;exact⟨_,_,rfl,by rw[cF,hg];simp[binOp,Op.intCmp],.bool _⟩)
  |simp at h
theorem NS(a b:zB):(⟨a.toArray⟩:ByteArray)++⟨b.toArray⟩=⟨(a++b).toArray⟩:=by
 apply ByteArray.ext;simp
theorem YB{op:BinOp}{t:TypeId}{a b:zB}{f:fT}(p q:Operand)(h:(zeW op a b).val=Q1 f):
  ∃r z,f={val:=r}/\(do eqGuard op t p q (.string ⟨a.toArray⟩) (.string ⟨b.toArray⟩);binOp op t (.string ⟨a.toArray⟩) (.string ⟨b.toArray⟩):Go.Sem Value).run P w=.ok z w/\Rv w U ρ r z:=by
 have hg:∀op,(eqGuard op t p q (.string ⟨a.toArray⟩) (.string ⟨b.toArray⟩)).run P w=.ok () w:=by intro op;cases op<;>simp[eqGuard]
 unfold zeW at h;split at h
 ·simp at h;obtain⟨h0,rfl⟩:=h;refine⟨_,.string ⟨(a++b).toArray⟩,rfl,?_,.str _ (by unfold aF;simp;omega)⟩;rw[cF,hg];simp[binOp,Op.stringOp,D4,NS];omega
 all_goals first
  |(simp at h;subst h;exact⟨_,_,rfl,by rw[cF,hg];simp[binOp,Op.stringOp],.bool _⟩)
  |simp at h
theorem Yy{op:BinOp}{t:TypeId}{x y:AV}{a b:Value}{f:fT}(p q:Operand)(h:(zeT P op t x y).val=Q1 f)(ha:Rv w U ρ x a)(hb:Rv w U ρ y b):
  ∃r z,f={val:=r}/\(do eqGuard op t p q a b;binOp op t a b:Go.Sem Value).run P w=.ok z w/\Rv w U ρ r z:=by
 unfold zeT at h;split at h
 ·split at h
  ·rename_i hk;subst hk;cases ha with
   |int _ _ h1=>
   cases hb with
   |int _ _ h2=>exact YA p q h h1 h2
  ·simp at h
 ·cases ha;cases hb;exact YB p q h
 ·rename_i hni hns;exact Yz p q h ha hb (λk n k' n' e1 e2=>hni k n k' n' e1 e2) (λs s' e1 e2=>hns s s' e1 e2)
def oE(vs:List Value)(off:Nat):List Value->List Value
 |[]=>vs
 |v::r=>oE (vs.set off v) (off+1) r
theorem ip:∀(r vs:List Value)(off:Nat),(oE vs off r).length=vs.length
 |[],_,_=>rfl
 |v::r,vs,off=>by simp[oE,ip r]
theorem oW:∀(r cs:List AV)(off:Nat),(setCells cs off r).length=cs.length
 |[],_,_=>rfl
 |v::r,cs,off=>by simp[setCells,oW r]
theorem Bl:∀(r:List AV)(vr:List Value)(cs:List AV)(vs:List Value)(off:Nat),du w U ρ cs vs->du w U ρ r vr->du w U ρ (setCells cs off r) (oE vs off vr)
 |[],[],cs,vs,off,h,_=>h
 |[],_::_,_,_,_,_,h=>by have:=h.len;simp at this
 |_::_,[],_,_,_,_,h=>by have:=h.len;simp at this
 | c::r,v::vr,cs,vs,off,h,h'=>by
  refine Bl r vr _ _ (off+1) ⟨by simp[h.len],λj c' v' hc hv=>?_⟩ ⟨by have:=h'.len;simpa using this,λj c' v' hc hv=>h'.rv (j+1) c' v' hc hv⟩;rw[yp]at hc hv;by_cases hj:off=j
  ·simp only[hj,if_true]at hc hv;split at hc
   ·rename_i hlt;rw[if_pos (by rw[<-h.len];exact hlt)]at hv;cases hc;cases hv;exact h'.rv 0 _ _ rfl rfl
   ·cases hc
  ·rw[if_neg hj]at hc hv;exact h.rv j c' v' hc hv
theorem D2:∀(vr vs:List Value)(off:Nat),(∀v∈vs,v.oneCell'=Q3)->(∀v∈vr,v.oneCell'=Q3)->∀v∈oE vs off vr,v.oneCell'=Q3
 |[],_,_,h,_=>h
 | v::vr,vs,off,h,h'=>D2 vr _ _ (fun x hx=>by
   grind) (λx hx=>h' x (by simp[hx]))
theorem CE(cs:List Value):∀(l:List Value)(k:Nat)(off:Nat),(l.zipIdx k).foldl (λ(cs:Array Value)(p:Value×Nat)=>cs.setIfInBounds (off+p.2) p.1) cs.toArray=(oE cs (off+k) l).toArray
 |[],_,_=>rfl
 | v::l,k,off=>by
  simp only[List.zipIdx_cons,List.foldl_cons,oE];have:=CE (cs.set (off+k) v) l (k+1) off;grind
theorem Cw{place:Nat->Option (Nat×Nat)}:∀(parts:List (Nat×AV))(vparts:List (Nat×Value))(cs:List AV)(vs:List Value)(r:List AV),
  F2 place cs parts=Q1 r->du w U ρ cs vs->(∀v∈vs,v.oneCell'=Q3)->parts.map (·.1)=vparts.map (·.1)->du w U ρ (parts.map (·.2)) (vparts.map (·.2))->
  ∃vr,Instr.fill place vs.toArray vparts=Q1 vr/\du w U ρ r vr.toList/\∀v∈vr.toList,v.oneCell'=Q3
 | [],[],cs,vs,r,h,hr,h1,_,_=>by
  simp[F2]at h;subst h;exact⟨vs.toArray,by simp[Instr.fill],by simpa using hr,by simpa using h1⟩
 |[],_::_,_,_,_,_,_,_,h,_=>by simp at h
 |_::_,[],_,_,_,_,_,_,h,_=>by simp at h
 | (i,c)::parts,(i',v)::vparts,cs,vs,r,h,hr,h1,hi,hp=>by
  simp at hi;obtain⟨rfl,hi⟩:=hi;simp only[F2]at h;split at h
  ·rename_i off size ccs hpl hcc;split at h
   ·rename_i hsz;obtain⟨hs1,hs2⟩:=hsz;obtain⟨hcv,hcv1⟩:=gT (w:=w) (U:=U) (ρ:=ρ) hcc (hp.rv 0 c v rfl rfl)
    obtain⟨vr,e1,e2,e3⟩:=Cw parts vparts _ (oE vs off v.cells.toList) r h (Bl _ _ _ _ _ hr hcv) (D2 _ _ _ h1 hcv1) hi
     ⟨by have:=hp.len;simpa using this,λj c' v' hc hv=>hp.rv (j+1) c' v' hc hv⟩
    refine⟨vr,?_,e2,e3⟩;have hlen:=hcv.len;simp only[Array.length_toList]at hlen;have hlen2:=hr.len;simp only[Instr.fill,hpl];rw[if_neg sg];have:=CE vs v.cells.toList 0 off;rw[yw]at this;rw[<-e1,<-this];congr 1;rw[<-Array.foldl_toList,Array.toList_zipIdx]
   ·cases h
  ·cases h
theorem Da:∀(fs:List Field)(ps:List (Nat×Nat)),vo P fs=Q1 ps->(fs.mapM λf=>do pure (f.offset,<-Go.sizeOf f.type):Go.Sem (List (Nat×Nat))).run P w=.ok ps w
 |[],ps,h=>by simp[vo]at h;subst h;simp
 | f::r,ps,h=>by
  simp only[vo]at h;split at h
  ·rename_i n l hn hl;cases h;have:=Da r l hl;simp only[List.mapM_cons,cF,cM hn,pm,pk,this]
  ·cases h
theorem QB{t:TypeId}{parts:List (Nat×AV)}{vparts:List (Nat×Value)}{r:AV}(h:Mn P t parts=Q1 r)
  (hi:parts.map (·.1)=vparts.map (·.1)) (hp:du w U ρ (parts.map (·.2)) (vparts.map (·.2))):
  ∃x,(Instr.build t vparts.toArray).run P w=.ok x w/\Rv w U ρ r x:=by
 have zeroOk:∀zero,wy P t=Q1 (.agg zero)->∃z:Value,(zeroValue t).run P w=.ok z w/\du w U ρ zero z.cells.toList/\∀v∈z.cells.toList,v.oneCell'=Q3:=by
  intro zero hz;unfold wy at hz;split at hz
  ·rename_i i hinfo;simp only[eD]at hz;obtain⟨z,hz1,hz2⟩:=hz;have hr:=qH (w:=w) (U:=U) (ρ:=ρ) z;rw[hz2]at hr;have:=gT (w:=w) (U:=U) (ρ:=ρ) (av:=.agg zero) rfl hr;exact⟨z,by simp[zeroValue,typeInfo,hinfo,hz1],this.1,this.2⟩
  ·cases hz
 unfold Mn at h;split at h
 ·rename_i zero fs hz hu;split at h
  ·rename_i ps hps;simp only[eD]at h;obtain⟨r',h,rfl⟩:=h;obtain⟨z,hz1,hz2,hz3⟩:=zeroOk zero hz;obtain⟨vr,e1,e2,e3⟩:=Cw parts vparts _ _ _ h hz2 hz3 hi hp;refine⟨.agg vr,?_,?_⟩
   ·simp only[Og]at e1;have hm:=Da (w:=w) fs.toList ps hps;have hplaces:(fs.mapM λf=>do pure (f.offset,<-Go.sizeOf f.type):Go.Sem (Array (Nat×Nat))).run P w=.ok ps.toArray w:=by
     rw[Array.mapM_eq_mapM_toList,Sem.run_map,hm];rfl
    have e1':Instr.fill (λx=>ps.toArray[x]?) z.cells vparts=Q1 vr:=by simpa using e1
    simp only[Instr.build,cF,hz1,pm,bz hu,hplaces,e1',pk]
   ·have:=Rv.agg (w:=w) (U:=U) (ρ:=ρ) r' vr.toList e2.len e3 e2.rv;simpa using this
  ·cases h
 ·rename_i zero len elem hz hu;split at h
  ·rename_i n hn;simp only[eD]at h;obtain⟨r',h,rfl⟩:=h;obtain⟨z,hz1,hz2,hz3⟩:=zeroOk zero hz;obtain⟨vr,e1,e2,e3⟩:=Cw parts vparts _ _ _ h hz2 hz3 hi hp;refine⟨.agg vr,?_,?_⟩
   ·simp only[Og]at e1;simp[Instr.build,hz1,bz hu,cM hn,e1]
   ·have:=Rv.agg (w:=w) (U:=U) (ρ:=ρ) r' vr.toList e2.len e3 e2.rv;simpa using this
  ·cases h
 ·cases h
end
end Cad
