/- The abstract machine. -/
import Derived.WalkKit
import Derived.Deep.AppendSrc
namespace Cad
open Go
open List renaming length->Io,length->X
open Bool renaming false->Q4,true->Q3,false->S,true->O
open Option renaming none->Q2,some->Q1,some->M
open Decidable renaming decide->T
variable {α β:Type}
abbrev _root_.Prod.q{p:Type}(x:α×β×p):p:=x.2.2
abbrev _root_.Prod.t{p q s:Type}(x:α×β×p×q×s):s:=x.2.2.2.2
theorem _root_.And.q{a b c:Prop}(h:a/\b/\c):c:=h.2.2
theorem _root_.And.t{a b c d e:Prop}(h:a/\b/\c/\d/\e):e:=h.2.2.2.2
section
variable {A B C D E F G H N P U n o:Type} {a b c d e f g h i j k l m:Prop}
abbrev _root_.Prod.r(x:A×B×C×D):=x.2.2.2
theorem _root_.And.r(x:a/\b/\c/\d):d:=x.2.2.2
abbrev _root_.Prod.u(x:A×B×C×D×E×F):=x.2.2.2.2.2
theorem _root_.And.u(x:a/\b/\c/\d/\e/\f):f:=x.2.2.2.2.2
abbrev _root_.Prod.v(x:A×B×C×D×E×F×G):=x.2.2.2.2.2.2
theorem _root_.And.v(x:a/\b/\c/\d/\e/\f/\g):g:=x.2.2.2.2.2.2
abbrev _root_.Prod.w(x:A×B×C×D×E×F×G×H):=x.2.2.2.2.2.2.2
theorem _root_.And.w(x:a/\b/\c/\d/\e/\f/\g/\h):h:=x.2.2.2.2.2.2.2
abbrev _root_.Prod.x(x:A×B×C×D×E×F×G×H×N):=x.2.2.2.2.2.2.2.2
theorem _root_.And.x(x:a/\b/\c/\d/\e/\f/\g/\h/\i):i:=x.2.2.2.2.2.2.2.2
abbrev _root_.Prod.y(x:A×B×C×D×E×F×G×H×N×P):=x.2.2.2.2.2.2.2.2.2
theorem _root_.And.y(x:a/\b/\c/\d/\e/\f/\g/\h/\i/\j):j:=x.2.2.2.2.2.2.2.2.2
abbrev _root_.Prod.z(x:A×B×C×D×E×F×G×H×N×P×U):=x.2.2.2.2.2.2.2.2.2.2
theorem _root_.And.z(x:a/\b/\c/\d/\e/\f/\g/\h/\i/\j/\k):k:=x.2.2.2.2.2.2.2.2.2.2
abbrev _root_.Prod.s(x:A×B×C×D×E×F×G×H×N×P×U×n):=x.2.2.2.2.2.2.2.2.2.2.2
theorem _root_.And.s(x:a/\b/\c/\d/\e/\f/\g/\h/\i/\j/\k/\l):l:=x.2.2.2.2.2.2.2.2.2.2.2
abbrev _root_.Prod.p(x:A×B×C×D×E×F×G×H×N×P×U×n×o):=x.2.2.2.2.2.2.2.2.2.2.2.2
theorem _root_.And.p(x:a/\b/\c/\d/\e/\f/\g/\h/\i/\j/\k/\l/\m):m:=x.2.2.2.2.2.2.2.2.2.2.2.2
end
theorem ow{p:Prop}(h:p:=by omega):p:=h
theorem sw{p:Prop}(h:p:=by simp):p:=h
theorem sg{p:Prop}(h:p:=by simp;omega):p:=h
theorem kw{p:Prop}(h:p:=by kernel_rfl):p:=h
theorem LY{p:Prop}(h:p:=by rfl):p:=h
abbrev bl0:List UInt8:=[100,101,108,101,116,101]
abbrev bl1:List UInt8:=[100,114,111,112]
abbrev qD:List UInt8:=[103,114,111,117,112]
abbrev bl3:List UInt8:=[105,110,115,101,114,116]
abbrev ic:List UInt8:=[106,111,105,110]
abbrev pC:List UInt8:=[108,105,116]
abbrev oC:List UInt8:=[110,111,116]
abbrev qE:List UInt8:=[110,117,108,108]
abbrev wA:List UInt8:=[111,114]
abbrev bl9:List UInt8:=[114,101,97,100]
abbrev Ka:List UInt8:=[115,101,108,101,99,116]
abbrev P7:List UInt8:=[117,110,114,101,97,100]
abbrev P8:List UInt8:=[117,110,119,114,105,116,101]
abbrev M8:List UInt8:=[117,112,100,97,116,101]
abbrev P9:List UInt8:=[119,114,105,116,101]
abbrev Cb:List UInt8:=[32,40,32]
abbrev zlM:List UInt8:=[32,41,32]
abbrev jm:List UInt8:=[32,41]
abbrev zAh:List UInt8:=[32,44,32,75,69,89,32,40,32]
abbrev zlN:List UInt8:=[32,44,32,82,69,70,69,82,69,78,67,69,83,32,40,32]
abbrev zlO:List UInt8:=[32,44,32,85,78,73,81,85,69,32,40,32]
abbrev fP:List UInt8:=[32,44,32]
abbrev zlP:List UInt8:=[32,61,32]
abbrev Qj:List UInt8:=[32,65,78,68,32]
abbrev Vg:List UInt8:=[32,66,89,32]
abbrev zdL:List UInt8:=[32,67,72,69,67,75,32,40,32]
abbrev mi:List UInt8:=[32,70,82,79,77,32]
abbrev DN:List UInt8:=[32,73,83,32,78,85,76,76,41]
abbrev zlQ:List UInt8:=[32,78,79,84,32,78,85,76,76]
abbrev Cc:List UInt8:=[32,79,78,32]
abbrev Qk:List UInt8:=[32,79,82,32]
abbrev zdM:List UInt8:=[32,83,69,84,32]
abbrev Vh:List UInt8:=[32,83,85,77,32]
abbrev Ql:List UInt8:=[32,84,79,32]
abbrev zdN:List UInt8:=[32,86,65,76,85,69,83,32,40,32]
abbrev zdO:List UInt8:=[32,87,72,69,82,69,32]
abbrev pz:List UInt8:=[39,39]
abbrev zlR:List UInt8:=[40,41,44,61,60,43,45,42]
abbrev wy:List UInt8:=[40,78,79,84,32]
abbrev XU:List UInt8:=[65,78,68]
abbrev DO:List UInt8:=[66,79,79,76]
abbrev Hd:List UInt8:=[66,89]
abbrev M9:List UInt8:=[67,72,69,67,75,32,40,32]
abbrev je:List UInt8:=[67,72,69,67,75]
abbrev Vi:List UInt8:=[67,79,80,89]
abbrev zdP:List UInt8:=[67,82,69,65,84,69,32,84,65,66,76,69,32]
abbrev zdQ:List UInt8:=[67,82,69,65,84,69]
abbrev zdR:List UInt8:=[68,69,76,69,84,69,32,70,82,79,77,32]
abbrev zdS:List UInt8:=[68,69,76,69,84,69]
abbrev zdT:List UInt8:=[68,82,79,80,32,84,65,66,76,69,32]
abbrev zdU:List UInt8:=[68,82,79,80]
abbrev Kb:List UInt8:=[70,65,76,83,69]
abbrev wz:List UInt8:=[70,82,79,77]
abbrev zrU:List UInt8:=[71,82,65,78,84,32,82,69,65,68,32,79,78,32]
abbrev zrV:List UInt8:=[71,82,65,78,84,32,87,82,73,84,69,32,79,78,32]
abbrev zlS:List UInt8:=[71,82,65,78,84,32]
abbrev zdV:List UInt8:=[71,82,65,78,84]
abbrev Vj:List UInt8:=[71,82,79,85,80]
abbrev XV:List UInt8:=[73,78,83,69,82,84,32,73,78,84,79,32]
abbrev zdW:List UInt8:=[73,78,83,69,82,84]
abbrev zdX:List UInt8:=[73,78,84,79]
abbrev DP:List UInt8:=[73,78,84]
abbrev Vk:List UInt8:=[74,79,73,78]
abbrev zlT:List UInt8:=[75,69,89,32,40,32]
abbrev XW:List UInt8:=[77,73,71,82,65,84,69,32,67,79,80,89,32]
abbrev zlU:List UInt8:=[77,73,71,82,65,84,69,32,71,82,79,85,80,32]
abbrev zlV:List UInt8:=[77,73,71,82,65,84,69,32,74,79,73,78,32]
abbrev XX:List UInt8:=[77,73,71,82,65,84,69,32]
abbrev zdY:List UInt8:=[77,73,71,82,65,84,69]
abbrev He:List UInt8:=[78,85,76,76]
abbrev Hf:List UInt8:=[79,78]
abbrev Vl:List UInt8:=[82,69,65,68]
abbrev zrW:List UInt8:=[82,69,70,69,82,69,78,67,69,83]
abbrev zrX:List UInt8:=[82,69,86,79,75,69,32,82,69,65,68,32,79,78,32]
abbrev zrY:List UInt8:=[82,69,86,79,75,69,32,87,82,73,84,69,32,79,78,32]
abbrev zlW:List UInt8:=[82,69,86,79,75,69,32]
abbrev zdZ:List UInt8:=[82,69,86,79,75,69]
abbrev zd0:List UInt8:=[83,69,76,69,67,84,32,42,32,70,82,79,77,32]
abbrev zd1:List UInt8:=[83,69,76,69,67,84]
abbrev Hg:List UInt8:=[83,85,77]
abbrev zd2:List UInt8:=[84,65,66,76,69]
abbrev DQ:List UInt8:=[84,69,88,84]
abbrev Kc:List UInt8:=[84,82,85,69]
abbrev XY:List UInt8:=[85,80,68,65,84,69,32]
abbrev zd3:List UInt8:=[85,80,68,65,84,69]
abbrev zd4:List UInt8:=[86,65,76,85,69,83]
abbrev mV:List UInt8:=[87,72,69,82,69]
abbrev jf:List UInt8:=[97,110,100]
abbrev fk:List UInt8:=[99,111,108]
abbrev dI:List UInt8:=[99,111,112,121]
abbrev Qm:List UInt8:=[99,114,101,97,116,101]
abbrev zJ:=List UInt8
abbrev DB:=@List.eq_nil_of_length_eq_zero
abbrev qP:=@Array.getD_eq_getD_getElem?
abbrev mU:=@Array.getElem?_eq_some_iff
abbrev bz:=@List.getD_eq_getElem?_getD
abbrev pu:=@List.getElem?_append_right
abbrev uh:=@Array.getElem?_eq_getElem
abbrev kX:=@Classical.byContradiction
abbrev il:=@List.drop_eq_getElem_cons
abbrev rl:=@List.getElem?_append_left
abbrev dF:=@List.getElem?_eq_some_iff
abbrev SL:=@List.mem_or_eq_of_mem_set
abbrev zV:=@Bool.eq_false_or_eq_true
abbrev af:=@List.getElem?_eq_getElem
abbrev gC:=@Option.bind_eq_some_iff
abbrev HP:=@List.drop_eq_nil_of_le
abbrev MY:=@List.take_of_length_le
abbrev g9:=@MapKept.run_getObj_map
abbrev ov:=@MapKept.run_setObj_map
abbrev dW:=@Option.map_eq_some_iff
abbrev Bl:=@World.frozen?_of_block
abbrev uz:=@Array.getElem?_modify
abbrev rg:=@Array.getElem?_toList
abbrev HQ:=@List.contains_iff_mem
abbrev fg:=@List.getElem?_eq_none
abbrev SN:=@List.getElem?_toArray
abbrev SO:=@Array.toArray_toList
abbrev DC:=@List.getElem?_set_ne
abbrev nc:=@List.mem_cons_of_mem
abbrev gg:=@List.mem_of_getElem?
abbrev MZ:=@MapKept.run_checkKey
abbrev gD:=@Nat.mul_le_mul_right
abbrev HR:=@Nat.pow_le_pow_right
abbrev DD:=@List.getD_cons_succ
abbrev Bm:=@List.getElem?_range
abbrev fO:=@List.getElem_of_mem
abbrev M0:=@MapKept.run_findKey
abbrev dX:=@beq_eq_false_iff_ne
abbrev zD:=@Bool.false_eq_true
abbrev DE:=@List.getElem?_drop
abbrev jK:=@List.length_append
abbrev uA:=@List.mem_cons_self
abbrev fh:=@List.mem_singleton
abbrev ia:=@Nat.lt_of_lt_of_le
abbrev dw:=@Option.isSome_some
abbrev uB:=@Bool.not_eq_true'
abbrev Bn:=@Function.comp_def
abbrev DF:=@Int.lt_trichotomy
abbrev aH:=@Int.toNat_natCast
abbrev M1:=@List.append_assoc
abbrev ox:=@List.ext_getElem?
abbrev dN:=@List.getElem?_map
abbrev nf:=@List.getElem?_set
abbrev HS:=@Nat.succ_le_of_lt
abbrev bG:=@Option.some.injEq
abbrev qz:=@Result.andThen_ok
abbrev ib:=@bne_self_eq_false
abbrev aY:=@decide_eq_true_eq
abbrev lp:=@of_decide_eq_true
abbrev aN:=@Bool.and_eq_true
abbrev iW:=@Bool.not_eq_true
abbrev fi:=@IntKind.wrap_i64
abbrev eu:=@List.all_eq_true
abbrev kD:=@List.drop_length
abbrev bC:=@List.getElem_mem
abbrev fE:=@List.length_cons
abbrev oy:=@List.length_take
abbrev Bo:=@List.mem_flatMap
abbrev gE:=@List.take_length
abbrev oz:=@MapKept.heap_set
abbrev HT:=@Nat.min_eq_right
abbrev bI:=@Option.getD_some
abbrev oA:=@Bool.eq_iff_iff
abbrev oB:=@Bool.or_eq_true
abbrev wn:=@Int.natCast_add
abbrev wo:=@List.append_nil
abbrev Bp:=@List.cons.injEq
abbrev dc:=@List.length_map
abbrev qA:=@List.length_nil
abbrev ng:=@List.length_set
abbrev gh:=@List.map_append
abbrev cX:=@List.mem_append
abbrev HU:=@List.nil_append
abbrev HV:=@Nat.min_eq_left
abbrev HW:=@Option.map_some
abbrev aB:=@decide_eq_false
abbrev dp:=@Bool.not_false
abbrev mg:=@Comes.of_steps
abbrev rk:=@List.mem_range
abbrev HX:=@Nat.mul_le_mul
abbrev zB:=@decide_eq_true
abbrev bN:=@run_underlying
abbrev qB:=@Bool.and_self
abbrev cj:=@Bool.not_true
abbrev eY:=@Bool.true_and
abbrev ew:=@List.map_cons
abbrev bZ:=@List.mem_cons
abbrev cO:=@Prod.mk.injEq
abbrev qC:=@List.map_map
abbrev rm:=@List.map_nil
abbrev bn:=@List.mem_map
abbrev kV:=@Nat.add_comm
abbrev ve:=@Nat.add_zero
abbrev bc:=@Nat.le_trans
abbrev pt:=@Nat.pow_succ
abbrev jP:=@Nat.succ_mul
abbrev eI:=@Nat.zero_add
abbrev dA:=@Sem.run_bind
abbrev rc:=@Nat.add_mul
abbrev zM:=@Nat.le_refl
abbrev aG:=@Nat.zero_le
abbrev kW:=@Array.ext'
abbrev bW:=@beq_iff_eq
abbrev aJ:=@cond_false
abbrev aI:=@cond_true
abbrev bX:=@eq_of_beq
abbrev zf:=@if_pos
abbrev zh:=@if_neg
abbrev zj:=@if_true
abbrev zm:=@if_false
abbrev bh:=@Prod.eta
abbrev ei:=@decide_eq_false_iff_not
abbrev zA:=@absurd
inductive zg where
 |mk (op:zJ) (v:Int×Int×zJ) (s:zJ) (l:List zg)
def zg.op:zg->zJ
 |.mk o _ _ _=>o
def zg.v:zg->Int×Int×zJ
 |.mk _ v _ _=>v
def zg.s:zg->zJ
 |.mk _ _ s _=>s
def zg.l:zg->List zg
 |.mk _ _ _ l=>l
inductive Sh where
 |unit
 |bool
 |int (k:IntKind)
 |str
 |sl (e:Sh)
 |pr (a b:Sh)
 |expr
 deriving DecidableEq
@[reducible] def Sem:Sh->Type
 |.unit=>Unit
 |.bool=>Bool
 |.int _=>Int
 |.str=>zJ
 |.sl e=>List (Sem e)
 |.pr a b=>Sem a×Sem b
 |.expr=>zg
def zi:(s:Sh)->Sem s
 |.unit=>()
 |.bool=>S
 |.int _=>(0:Int)
 |.str=>([]:zJ)
 |.sl e=>([]:List (Sem e))
 |.pr a b=>(zi a,zi b)
 |.expr=>zg.mk [] (0,0,[]) [] []
def Sh.size:Sh->Nat
 |.unit=>0
 |.pr a b=>a.size+b.size
 |.expr=>6
 |_=>1
inductive AV where
 |any
 |kb (b:Bool)
 |bool (b:Bool)
 |int (k:IntKind) (n:Int)
 |str (s:zJ)
 |nils
 |sl (e:Sh) (l:List (Sem e))
 |vec (id:Nat)
 |ptr (id off:Nat)
 |vptr (id sz i off:Nat)
 |eptr (cells:List AV) (off:Nat)
 |nilp
 |agg (cells:List AV)
 |tup (vs:List AV)
 |clo (fn:Fn) (first caps:List AV)
 |nilf
 |mp (id:Nat)
 |ifc (bE:Bool)
 |tab (k:IntKind) (zs:List Int)
 |gint
@[match_pattern] abbrev ai (n:Int):AV:=.int .i64 n
abbrev ny:AV:=.any
def zC:(s:Sh)->Sem s->List AV
 |.unit,_=>[]
 |.bool,b=>[.bool b]
 |.int k,n=>[.int k n]
 |.str,s=>[.str s]
 |.sl e,l=>[.sl e l]
 |.pr a b,x=>zC a x.1++zC b x.2
 |.expr,e=>[.str e.op,.int .i64 e.v.1,.int .i64 e.v.2.1,.str e.v.q,.str e.s,.sl .expr e.l]
inductive AO where
 |dead
 |box (cells:List AV)
 |vec (e:Sh) (l:List (Sem e))
 |frz (e:Sh) (l:List (Sem e))
 |fmap (es:List (zJ×AV))
 |vmap (u:Bool) (es:List ((Int×Int×zJ)×Int))
 |gmap (e:Sh) (es:List ((Int×Int×zJ)×List (Sem e)))
inductive Tr (α:Type) where
 |err
 |chk (c:Bool) (t:Tr α)
 |br (c:Bool) (t f:Tr α)
 |ok (a:α)
def Tr.val:Tr α->Option α
 |.err=>Q2
 |.chk c t=>if c then t.val else Q2
 |.br c t f=>if c then t.val else f.val
 |.ok a=>M a
def Tr.bind:Tr α->(α->Tr β)->Tr β
 |.err,_=>.err
 |.chk c t,k=>.chk c (t.bind k)
 |.br c t f,k=>.br c (t.bind k) (f.bind k)
 |.ok a,k=>k a
structure gy where
 val:AV
 wr:List (Nat×AO):=[]
 nw:List AO:=[]
abbrev ag:=List AV->(Nat->AO)->Nat->Tr gy
structure cu where
 P:Program
 sh:TypeId->Option Sh
 gl:Nat->AV
 F:FuncId->Option ag
 own:Bool:=S
structure St where
 tmps:List AV
 heap:List AO
def St.hp(s:St)(id:Nat):AO:=s.heap.getD id .dead
def vj(p:Nat->AO)(e:Sh):AV->Option (List (Sem e))
 |.nils=>M []
 |.sl x l=>if h:x=e then M (h▸l)else Q2
 | .vec id=>match p id with
  |.vec x l=>if h:x=e then M (h▸l)else Q2
  |.frz x l=>if h:x=e then M (h▸l)else Q2
  |_=>Q2
 |_=>Q2
def w7(x:Nat->AO):List AV->Option (zg×List AV)
 | .str p::.int .i64 k::.int .i64 i::.str vs::.str s::c::r=>match vj x .expr c with
  |some l=>M (zg.mk p (k,i,vs) s l,r)
  |none=>Q2
 |_=>Q2
def dD(q:Nat->AO):(s:Sh)->List AV->Option (Sem s×List AV)
 |.unit,p=>M ((),p)
 |.bool,.bool b::r=>M (b,r)
 |.bool,.kb b::r=>M (b,r)
 |.int k,.int t n::r=>if t=k then M (n,r)else Q2
 |.str,.str s::r=>M (s,r)
 | .sl e,c::r=>match vj q e c with
  |some l=>M (l,r)
  |none=>Q2
 | .pr a b,p=>match dD q a p with
  | some (x,r)=>match dD q b r with
   |some (y,u)=>M ((x,y),u)
   |none=>Q2
  |none=>Q2
 |.expr,p=>w7 q p
 |_,_=>Q2
def cellsOf:AV->Option (List AV)
 |.any=>Q2
 |.tup _=>Q2
 |.agg x=>M x
 |v=>M [v]
def Sh.isAgg:Sh->Bool
 |.pr _ _|.expr|.unit=>O
 |_=>S
def AV.isAgg:AV->Bool
 |.agg _=>O
 |_=>S
def Bq(hp:Nat->AO)(s:Sh)(v:AV):Option (Sem s):=
 if s.isAgg==v.isAgg then match cellsOf v with
  | some p=>match dD hp s p with
   |some (x,[])=>M x
   |_=>Q2
  |none=>Q2
 else Q2
def zW(s:Sh)(x:Sem s):AV:=
 match s.isAgg with
 |true=>.agg (zC s x)
 |false=>(zC s x).headD .any
def Rk(k:IntKind)(n:Int):Bool:=match k with
 |.i8=>T (-128<=n)&&T (n<=127)
 |.i16=>T (-32768<=n)&&T (n<=32767)
 |.i32=>T (-2147483648<=n)&&T (n<=2147483647)
 |.i64=>T (-9223372036854775808<=n)&&T (n<=9223372036854775807)
 |.u8=>T (0<=n)&&T (n<=255)
 |.u16=>T (0<=n)&&T (n<=65535)
 |.u32=>T (0<=n)&&T (n<=4294967295)
 |.u64=>T (0<=n)&&T (n<=18446744073709551615)
def J0:Value->AV
 |.bool b=>.kb b
 |.int k n=>if Rk k n then .int k n else .any
 |.string s=>if s.data.toList.length<=1000000 then .str s.data.toList else .any
 |.slice Q2 0 0=>.nils
 |.pointer Q2=>.nilp
 |.nilFunc=>.nilf
 |.nilIface=>.ifc O
 |_=>.any
def zvo:Value->Bool
 |.agg _|.tuple _=>S
 |_=>O
def Ca:Value->AV
 |.agg x=>if x.toList.all zvo then .agg (x.toList.map J0)else .any
 |v=>J0 v
def tp(c:Bool):AV->AV->Option AV
 |.bool a,.bool b=>M (.bool (cond c a b))
 |.bool a,.kb b=>M (.bool (cond c a b))
 |.kb a,.bool b=>M (.bool (cond c a b))
 |.kb a,.kb b=>M (.bool (cond c a b))
 |.int k a,.int x b=>if k=x then M (.int k (cond c a b))else Q2
 |.str a,.str b=>M (.str (cond c a b))
 |_,_=>Q2
def gP(P:Program)(t:TypeId):Option Nat:=(P.info? t).map (·.size)
def uX(P:Program)(t:TypeId):Option AV:=match P.info? t with
 |some i=>i.zero.map Ca
 |none=>Q2
def GR(P:Program)(t:TypeId):Option Bool:=match P.underlying t with
 |some (.struct _)|some (.array _ _)=>M O
 |some _=>M S
 |none=>Q2
def zb6(P:Program)(t:TypeId):Option (List AV):=match P.info? t with
 | some i=>match i.zero with
  |some (.map Q2)=>M [.any]
  |some z=>cellsOf (Ca z)
  |none=>Q2
 |none=>Q2
def uP(P:Program)(t:TypeId)(p:List AV)(x:Nat):Option AV:=
 match GR P t,gP P t with
 |some O,M n=>if x+n<=X p then M (.agg ((p.drop x).take n))else Q2
 |some S,_=>p[x]?
 |_,_=>Q2
def setCells(p:List AV)(x:Nat):List AV->List AV
 |[]=>p
 |v::r=>setCells (p.set x v) (x+1) r
def ret(v:AV):Tr gy:=.ok {val:=v}
def Hu:Option AV->Tr gy
 |some v=>ret v
 |none=>.err
def CC(P:Program)(t:TypeId)(f:Nat):Option Field:=match P.underlying t with
 |some (.struct x)=>x[f]?
 |_=>Q2
def zL(n:Int)(x:Nat):Bool:=T (0<=n)&&T (n<x)
def dt:AV->List Nat
 |.vec id=>[id]
 |_=>[]
def ER:AO->AO
 |.vec e l=>.frz e l
 |o=>o
def pQ:AO->Bool
 |.vec _ _|.frz _ _=>O
 |_=>S
def io(p:Nat->AO)(x:List Nat):List (Nat×AO):=x.map λid=>(id,ER (p id))
def eqT(P:Program)(t:TypeId)(x y:AV):Option Bool:=
 match P.underlying t,x,y with
 |some (.int _),.int k a,.int p b=>if k=p then M (a==b)else Q2
 |some .string,.str a,.str b=>M (a==b)
 |some .bool,.bool a,.bool b=>M (a==b)
 |some .bool,.bool a,.kb b=>M (a==b)
 |some .bool,.kb a,.bool b=>M (a==b)
 |some .bool,.kb a,.kb b=>M (a==b)
 |_,_,_=>Q2
def Hi(P:Program):List Field->Nat->List AV->List AV->Option Bool
 |[],_,[],[]=>M O
 | f::fs,i,a::xs,b::ys=>if f.name != "_" && f.offset==i then match eqT P f.type a b,Hi P fs (i+1) xs ys with
   |some r,M s=>M (r&&s)
   |_,_=>Q2
  else Q2
 |_,_,_,_=>Q2
def eqA(P:Program)(t:TypeId)(x y:AV):Option Bool:=
 match x,y with
 | .agg a,.agg b=>match P.underlying t with
  |some (.struct p)=>if !P.stoodInHeld t&&!P.eqGuardType P.depth t then Hi P p.toList 0 a b else Q2
  |_=>Q2
 |x,y=>eqT P t x y
def zlK(x:BinOp)(k:IntKind)(a b:Int):Tr gy:=
 match x with
 |.add=>ret (.int k (k.wrap (a+b)))
 |.sub=>ret (.int k (k.wrap (a-b)))
 |.mul=>ret (.int k (k.wrap (a*b)))
 |.quo=>.chk (b !=0) (ret (.int k (k.wrap (a.tdiv b))))
 |.rem=>.chk (b !=0) (ret (.int k (k.wrap (a.tmod b))))
 |.shr=>.chk (b==1) (ret (.int k (a/2)))
 |.and=>ret (.int k (k.wrap (BitVec.ofInt k.bits a &&& BitVec.ofInt k.bits b).toNat))
 |.eql=>ret (.bool (a==b))
 |.neq=>ret (.bool (a !=b))
 |.lss=>ret (.bool (T (a<b)))
 |.leq=>ret (.bool (T (a<=b)))
 |.gtr=>ret (.bool (T (a>b)))
 |.geq=>ret (.bool (T (a>=b)))
 |_=>.err
def zlL(x:BinOp)(a b:zJ):Tr gy:=
 match x with
 |.add=>.chk (T (X a+X b<=1099511627776)) (ret (.str (a++b)))
 |.eql=>ret (.bool (a==b))
 |.neq=>ret (.bool (!(a==b)))
 |.lss=>ret (.bool (Op.bytesLess a b))
 |.leq=>ret (.bool (Op.bytesLess a b||a==b))
 |.gtr=>ret (.bool (!(Op.bytesLess a b||a==b)))
 |.geq=>ret (.bool (!Op.bytesLess a b))
 |_=>.err
def zlJ(P:Program)(p:BinOp)(t:TypeId)(x y:AV):Tr gy:=
 match p with
 | .eql=>match eqA P t x y with
  |some r=>ret (.bool r)
  |none=>.err
 | .neq=>match eqA P t x y with
  |some r=>ret (.bool (!r))
  |none=>.err
 |_=>.err
def zod(x:BinOp)(k:IntKind)(a b:Int):Tr gy:=
 match x with
 |.shr=>.chk (T (0<=b)) (ret (.int k (a.fdiv (2^min b.toNat k.bits))))
 |_=>.err
def zlI(P:Program)(p:BinOp)(t:TypeId)(x y:AV):Tr gy:=
 match x,y with
 |.int k a,.int q b=>if k=q then zlK p k a b else zod p k a b
 |.str a,.str b=>zlL p a b
 |x,y=>zlJ P p t x y
def IQ(p:Nat->Option (Nat×Nat))(x:List AV):List (Nat×AV)->Option (List AV)
 |[]=>M x
 | (i,v)::rest=>match p i,cellsOf v with
  |some (q,s),M t=>if X t=s/\q+X t<=X x then IQ p (setCells x q t) rest else Q2
  |_,_=>Q2
def xp(P:Program):List Field->Option (List (Nat×Nat))
 |[]=>M []
 | f::r=>match gP P f.type,xp P r with
  |some n,M l=>M ((f.offset,n)::l)
  |_,_=>Q2
def Qo(P:Program)(t:TypeId)(p:List (Nat×AV)):Option AV:=
 match uX P t,P.underlying t with
 | some (.agg z),M (.struct q)=>
  match xp P q.toList with
  |some s=>(IQ (λi=>s[i]?) z p).map .agg
  |none=>Q2
 | some (.agg z),M (.array _ x)=>match gP P x with
  |some n=>(IQ (λi=>M (i*n,n)) z p).map .agg
  |none=>Q2
 |_,_=>Q2
def yO(hp:Nat->AO)(e:Sh):List AV->Option (List (Sem e))
 |[]=>M []
 | v::r=>match Bq hp e v,yO hp e r with
  |some x,M l=>M (x::l)
  |_,_=>Q2
def w8:Nat->List (Nat×AV)->Bool
 |_,[]=>O
 |n,(i,_)::r=>i==n&&w8 (n+1) r
def Kx(P:Program)(q:Nat->AO)(t:TypeId):AV->Tr gy
 | .ptr id x=>match q id with
  |.box p=>Hu (uP P t p x)
  |_=>.err
 |.eptr p x=>Hu (uP P t p x)
 | .vptr id sz i x=>match q id with
  |.vec e l=>if e.size=sz then .chk (T (i<X l)) (Hu (uP P t (zC e (l.getD i (zi e))) x))else .err
  |_=>.err
 |_=>.err
def Ky(P:Program)(p:Nat->AO)(t:TypeId)(a x:AV):Tr gy:=
 match cellsOf x,gP P t with
 | some v,Q1 sz=>if Io v=sz then match a with
   | .ptr id off=>match p id with
    |.box q=>if off+sz<=X q then .ok {val:=.tup [],wr:=[(id,.box (setCells q off v))]}else .err
    |_=>.err
   | .vptr id sz' i off=>match p id with
    | .vec e l=>if e.size=sz'∧off+sz≤sz'∧(v.flatMap dt).all (fun j=>pQ (p j)&&j != id) then match dD p e (setCells (zC e (l.getD i (zi e))) off v) with
      |some (x,[])=>.chk (T (i<X l)) (.ok {val:=.tup [],wr:=(id,.vec e (l.set i x))::io p (v.flatMap dt)})
      |_=>.err
     else .err
    |_=>.err
   |_=>.err
  else .err
 |_,_=>.err
def Kv(P:Program)(t:TypeId)(f:Nat)(x:AV):Tr gy:=
 match CC P t f with
 | some q=>match gP P q.type with
  | some (_+1)=>match x with
   |.ptr id p=>ret (.ptr id (p+q.offset))
   |.eptr s p=>ret (.eptr s (p+q.offset))
   |.vptr id sz i p=>ret (.vptr id sz i (p+q.offset))
   |_=>.err
  |_=>.err
 |none=>.err
def Vd(k:Int)(f:Nat->AV):Nat->Nat->Tr gy
 |_,0=>.err
 |i,1=>ret (f i)
 |i,n+2=>.br (k==(i:Int)) (ret (f i)) (Vd k f (i+1) (n+1))
def rA(P:Program)(v:Nat->AO)(t:TypeId)(x i:AV):Tr gy:=
 match i with
 | .int _ k=>match P.underlying t with
  | some (.slice p)=>match x with
   |.sl e l=>if gP P p=M e.size then .chk (zL k (X l)) (ret (.eptr (zC e (l.getD k.toNat (zi e))) 0))else .err
   | .vec id=>match v id with
    |.vec e l=>if gP P p=M e.size then .chk (zL k (X l)) (ret (.vptr id e.size k.toNat 0))else .err
    |.frz e l=>if gP P p=M e.size then .chk (zL k (X l)) (ret (.eptr (zC e (l.getD k.toNat (zi e))) 0))else .err
    |_=>.err
   |_=>.err
  | some (.array q p)=>match gP P p with
   | some sz=>match x with
    |.ptr id s=>.chk (zL k q) (ret (.ptr id (s+k.toNat*sz)))
    |.eptr u s=>.chk (zL k q) (Vd k (λi=>.eptr u (s+i*sz)) 0 q)
    |_=>.err
   |none=>.err
  |_=>.err
 |_=>.err
def Kw(P:Program)(t:TypeId)(x i:AV):Tr gy:=
 match i with
 | .int _ k=>match P.underlying t,x with
  |some .string,.str s=>.chk (zL k (X s)) (ret (.int .u8 (s.getD k.toNat 0).toNat))
  | some (.array q p),.agg u=>match gP P p with
   | some sz=>match uP P p u (k.toNat * sz) with
    |some v=>.chk (zL k q) (ret v)
    |none=>.err
   |none=>.err
  |_,_=>.err
 |_=>.err
def eE(v:AV):List Nat:=match cellsOf v with
 |some x=>x.flatMap dt
 |none=>[]
def pJ(E:cu)(u:Nat->AO)(t:TypeId)(q:Nat)(s:List (Nat×AV)):Tr gy:=
 match E.P.underlying t with
 | some (.slice x)=>match q with
  |0=>if s.isEmpty&&(gP E.P x).isSome then ret .nils else .err
  | _=>match E.sh x with
   | some e=>
    if X s=q&&w8 0 s&&T (q*e.size<=100000)&&(s.flatMap λp=>eE p.2).all (λj=>pQ (u j))then match yO u e (s.map (·.2))with
     |some l=>.ok {val:=.sl e l,wr:=io u (s.flatMap λp=>eE p.2)}
     |none=>.err
    else .err
   |none=>.err
 |_=>.err
def vF(E:cu)(u:Nat->AO)(n:Nat)(t:TypeId)(x:Nat)(s:List (Nat×AV)):Tr gy:=
 match E.P.underlying t with
 | some (.slice q)=>match E.sh q with
  | some e=>
   if X s=x&&w8 0 s&&T (0<x)&&T (x*e.size<=100000)&&(s.flatMap λp=>eE p.2).isEmpty then match yO u e (s.map (·.2))with
    |some l=>.ok {val:=.vec n,nw:=[.vec e l]}
    |none=>.err
   else .err
  |none=>.err
 |_=>.err
def rp:AV->Option Int
 |.int _ k=>M k
 |_=>Q2
def wR(P:Program)(t:TypeId)(x:AV)(u q v:Option AV):Tr gy:=
 match P.underlying t,x,v with
 | some .string,.str s,Q2=>
  match(match u with|none=>M 0|some a=>rp a),(match q with|none=>M (X s:Int)|some a=>rp a)with
  |some l,M h=>.chk (T (0<=l)&&T (l<=h)&&T (h<=X s)) (ret (.str ((s.drop l.toNat).take (h.toNat-l.toNat))))
  |_,_=>.err
 | some (.slice p),.sl e s,Q2=>if gP P p=Q1 e.size then
   match(match u with|none=>M 0|some a=>rp a),(match q with|none=>M (X s:Int)|some a=>rp a)with
   |some l,M h=>.chk (T (0<=l)&&T (l<=h)&&T (h<=X s)) (ret (.sl e ((s.drop l.toNat).take (h.toNat-l.toNat))))
   |_,_=>.err
  else .err
 | some (.slice p),.sl _ _,M (.int _ 0)=>match u,q with
  |none,M (.int _ 0)=>if(gP P p).isSome then ret .nils else .err
  |_,_=>.err
 | some (.slice p),.nils,M (.int _ 0)=>match u,q with
  |none,M (.int _ 0)=>if(gP P p).isSome then ret .nils else .err
  |_,_=>.err
 |_,_,_=>.err
def EF(P:Program)(hp:Nat->AO)(t:TypeId)(x:AV)(q p s:Option AV):Tr gy:=
 match x with
 | .vec id=>match hp id with
  |.vec e l=>(wR P t (.sl e l) q p s).bind λf=>.ok {val:=f.val,wr:=io hp [id]}
  |.frz e l=>wR P t (.sl e l) q p s
  |_=>.err
 |x=>wR P t x q p s
def Y2(P:Program)(q:Nat->AO)(t:TypeId)(x:AV):Tr gy:=
 match P.underlying t with
 | some .string=>match x with
  |.str s=>ret (.int .i64 (X s))
  |_=>.err
 | some (.slice _)=>match x with
  |.nils=>ret (.int .i64 0)
  |.sl _ l=>ret (.int .i64 (X l))
  | .vec id=>match q id with
   |.vec _ l=>ret (.int .i64 (X l))
   |.frz _ l=>ret (.int .i64 (X l))
   |_=>.err
  |_=>.err
 | some (.map _ _)=>match x with
  | .mp id=>match q id with
   |.vmap _ p=>.chk (T (X p<=1073741824)) (ret (.int .i64 (X p)))
   |_=>.err
  |_=>.err
 |_=>.err
def oK(E:cu)(q:Nat->AO)(n:Nat)(p:TypeId)(b x:AV):Tr gy:=
 match E.sh p,b with
 | some e,.nils=>match vj q e x with
  |some l=>.chk (T (X l<=1073741824)) (.ok {val:=.vec n,nw:=[.vec e l]})
  |none=>.err
 | some e,.vec id=>match q id with
  | .vec u t=>if h:u=e then match vj q e x with
    |some s=>.chk (T (X t+X s<=1073741824)) (.ok {val:=.vec n,wr:=[(id,.dead)],nw:=[.vec e ((h▸t:List (Sem e))++s)]})
    |none=>.err
   else .err
  |_=>.err
 |_,_=>.err
def TB(x:List (zJ×AV))(s:zJ)(z:Tr gy):Tr gy:=match x with
 |[]=>z
 |(k,v)::r=>.br (s==k) (ret v) (TB r s z)
def KM(x:List (zJ×AV))(s:zJ)(z:Tr gy):Tr gy:=match x with
 |[]=>z
 |(k,v)::r=>.br (s==k) (ret (.tup [v,.kb O])) (KM r s z)
def Sw:AV->Option (Int×Int×zJ)
 |.agg [.int .i64 a,.int .i64 b,.str s]=>M (a,b,s)
 |_=>Q2
def zow:Bool->AV->Option Int
 |false,.int .i64 n=>M n
 |true,.agg []=>M 0
 |_,_=>Q2
def qv(x:List ((Int×Int×zJ)×Int))(k:Int×Int×zJ):Bool:=x.any λp=>k==p.1
def iy(x:List ((Int×Int×zJ)×Int))(k:Int×Int×zJ):Int:=((x.find? λp=>k==p.1).map (·.2)).getD 0
def lK(es:List ((Int×Int×zJ)×Int))(k:Int×Int×zJ)(x:Int):List ((Int×Int×zJ)×Int):=match es with
 |[]=>[(k,x)]
 |p::r=>bif k==p.1 then(k,x)::r else p::lK r k x
def kR(es:List ((Int×Int×zJ)×Int))(k:Int×Int×zJ):List ((Int×Int×zJ)×Int):=bif qv es k then es else es++[(k,0)]
def mS(es:List ((Int×Int×zJ)×Int))(k:Int×Int×zJ):Nat:=match es with
 |[]=>0
 |p::r=>bif k==p.1 then 0 else mS r k+1
def ln(q:List ((Int×Int×zJ)×Int))(n:Nat)(x:Int):List ((Int×Int×zJ)×Int):=match q,n with
 |[],_=>[]
 |p::r,0=>(p.1,x)::r
 |p::r,n+1=>p::ln r n x
def KD(P:Program)(t:TypeId):Bool:=match P.underlying t with
 |some (.int _)=>O
 |_=>S
def Rm(P:Program)(t:TypeId):Bool:=match P.underlying t with
 |some .string=>O
 |_=>S
def ii(P:Program)(s:TypeId):Bool:=match P.underlying s with
 | some (.struct t) => !P.stoodInHeld s && !P.eqGuardType P.depth s&&(match t.toList with
  |[x,p,q]=>x.name !="_"&&x.offset==0&&KD P x.type&&(p.name !="_"&&p.offset==1&&KD P p.type)&&(q.name !="_"&&q.offset==2&&Rm P q.type)
  |_=>S)
 |_=>S
def Z4(P:Program)(sh:TypeId->Option Sh)(t:TypeId):Option AO:=match P.underlying t with
 | some (.map x q)=>match P.underlying x with
  |some .string=>M (.fmap [])
  | _=>if ii P x then match P.underlying q with
    |some (.int .i64)=>M (.vmap S [])
    |some (.struct s)=>if s.size=0 then M (.vmap O [])else Q2
    |some (.slice p)=>(sh p).map λe=>.gmap e []
    |_=>Q2
   else Q2
 |_=>Q2
def wQ(P:Program)(y:Nat->AO)(t:TypeId)(m k x:AV):Tr gy:=
 match P.underlying t with
 | some (.map z _)=>match P.underlying z with
  | some .string=>match m,k with
   | .mp id,.str s=>match y id with
    |.fmap q=>.chk (!(q.any λp=>p.1==s)) (.ok {val:=.tup [],wr:=[(id,.fmap (q++[(s,x)]))]})
    |_=>.err
   |_,_=>.err
  | some (.struct _)=>if ii P z then match m,Sw k with
    | .mp id,Q1 v=>match y id with
     | .vmap u q=>match zow u x with
      |some n=>.ok {val:=.tup [],wr:=[(id,.vmap u (lK q v n))]}
      |none=>.err
     |_=>.err
    |_,_=>.err
   else .err
  |_=>.err
 |_=>.err
def wP(P:Program)(q:Nat->AO)(t:TypeId)(m k:AV):Tr gy:=
 match P.underlying t with
 | some (.map s p)=>if ii P s then match m,Sw k with
   | .mp id,Q1 v=>match q id with
    | .vmap S x=>match uX P p with
     |some (.int .i64 z)=>if z=0 then .chk (T (X x<=1073741824)) (.ok {val:=.tup [.int .i64 (iy x v),.int .i64 (mS x v)],wr:=[(id,.vmap S (kR x v))]})else .err
     |_=>.err
    |_=>.err
   |_,_=>.err
  else .err
 |_=>.err
def pK(q:Nat->AO)(m s x:AV):Tr gy:=
 match m,s,x with
 | .mp id,.int .i64 n,.int .i64 y=>match q id with
  |.vmap S p=>.chk (zL n (X p)) (.ok {val:=.tup [],wr:=[(id,.vmap S (ln p n.toNat y))]})
  |_=>.err
 |_,_,_=>.err
def zjl(P:Program)(x:TypeId):Tr gy:=match uX P x with
 |some z=>ret (.tup [z,.kb S])
 |none=>.err
def lE{e:Sh}(x:List ((Int×Int×zJ)×List (Sem e)))(k:Int×Int×zJ):List (Sem e):=match x with
 |[]=>[]
 |p::r=>bif k==p.1 then p.2 else lE r k
def mW{α:Type}(x:List ((Int×Int×zJ)×α))(k:Int×Int×zJ):List ((Int×Int×zJ)×α):=match x with
 |[]=>[]
 |p::r=>bif k==p.1 then r else p::mW r k
def ED(P:Program)(p:Nat->AO)(t:TypeId)(m k:AV):Tr gy:=
 match P.underlying t with
 | some (.map q _)=>if ii P q then match m,Sw k with
   | .mp id,M v=>match p id with
    |.gmap e x=>.ok {val:=.tup [],wr:=[(id,.gmap e (mW x v))]}
    |_=>.err
   |_,_=>.err
  else .err
 |_=>.err
def ms(P:Program)(y:Nat->AO)(t:TypeId)(x i:AV)(two:Bool):Tr gy:=
 match P.underlying t with
 | some (.map kt q)=>match P.underlying kt with
  | some .string=>match x,i with
   | .mp id,.str s=>match y id with
    |.fmap p=>if two then KM p s (zjl P q)else TB p s (Hu (uX P q))
    |_=>.err
   |_,_=>.err
  | some (.struct _)=>if ii P kt then match x,Sw i with
    | .mp id,Q1 v=>match y id with
     | .vmap u p=>match uX P q with
      |some (.int .i64 z)=>if u=S/\z=0 then ret (ite two (.tup [.int .i64 (iy p v),.bool (qv p v)]) (.int .i64 (iy p v)))else .err
      |some (.agg cs)=>if u=O/\cs.isEmpty=O then ret (ite two (.tup [.agg [],.bool (qv p v)]) (.agg []))else .err
      |_=>.err
     | .gmap e p=>match uX P q with
      |some .nils=>if two=S then ret (.sl e (lE p v))else .err
      |_=>.err
     |_=>.err
    |_,_=>.err
   else .err
  |_=>.err
 |_=>.err
def Y1(E:cu)(q:Operand->AV)(s:Nat->AO)(n:Nat)(c:Call):Tr gy:=
 match c.callee with
 | .value f=>match q f with
  | .clo (.func k) first caps=>match E.F k with
   |some F=>F (first++c.args.toList.map q++caps) s n
   |none=>.err
  |_=>.err
 | .builtin .len=>match c.args.toList.map q,c.argTypes.toList with
  |[x],[t]=>Y2 E.P s t x
  |_,_=>.err
 | .builtin .append=>match c.args.toList.map q,c.argTypes.toList with
  | [b,x],[t,u]=>match E.P.underlying t,E.P.underlying u with
   |some (.slice p),M (.slice _)=>oK E s n p b x
   |_,_=>.err
  |_,_=>.err
 | .builtin .delete=>match c.args.toList.map q,c.argTypes.toList with
  |[m,k],[t,_]=>ED E.P s t m k
  |_,_=>.err
 |_=>.err
def nO(l:List Int):zJ:=l.map λn=>UInt8.ofNat n.toNat
def Kt(P:Program)(x:TypeId):AV->Tr gy
 | .sl (.int .u8) l=>match P.underlying x with
  |some (.int .u8)=>ret (.str (nO l))
  |_=>.err
 |_=>.err
def rB(E:cu)(q:Operand->AV)(v:Nat->AO)(n:Nat)(o:Oper):Tr gy:=
 match o.op with
 |.move x|.assign x=>ret (q x)
 | .pick c a b=>match q c with
  |.kb O=>ret (q a)
  |.kb S=>ret (q b)
  |.bool x=>Hu (tp x (q a) (q b))
  |_=>.err
 | .box _ x=>match cellsOf (q x) with
  |some z=>.ok {val:=.ptr n 0,nw:=[.box z]}
  |none=>.err
 | .alloc t=>match zb6 E.P t with
  |some z=>.ok {val:=.ptr n 0,nw:=[.box z]}
  |none=>.err
 |.load t a=>Kx E.P v t (q a)
 |.store t a x=>Ky E.P v t (q a) (q x)
 |.fieldAddr t x f=>Kv E.P t f (q x)
 | .field t x f=>match CC E.P t f,q x with
  |some fd,.agg z=>Hu (uP E.P fd.type z fd.offset)
  |_,_=>.err
 |.indexAddr t x i=>rA E.P v t (q x) (q i)
 |.index t x i=>Kw E.P t (q x) (q i)
 |.build t u=>Hu (Qo E.P t (u.toList.map λp=>(p.1,q p.2)))
 | .buildSlice t h0 u=>match E.own with
  |true=>vF E v n t h0 (u.toList.map λp=>(p.1,q p.2))
  |false=>pJ E v t h0 (u.toList.map λp=>(p.1,q p.2))
 |.binOp op t x y _=>zlI E.P op t (q x) (q y)
 | .unOp .not _ x=>match q x with
  |.bool b=>ret (.bool (!b))
  |.kb b=>ret (.kb (!b))
  |_=>.err
 | .unOp .neg _ x=>match q x with
  |.int k a=>ret (.int k (k.wrap (0-a)))
  |_=>.err
 | .convert h2 h1 x=>match E.P.underlying h2,E.P.underlying h1,q x with
  |some _,M (.int k),.int _ a=>ret (.int k (k.wrap a))
  |some _,M .string,.str s=>ret (.str s)
  |some (.slice el),M .string,.sl e l=>Kt E.P el (.sl e l)
  |_,_,_=>.err
 |.slice t x lo hi mx=>EF E.P v t (q x) (lo.map q) (hi.map q) (mx.map q)
 | .extract x i=>match q x with
  |.tup vs=>Hu vs[i]?
  |_=>.err
 |.makeFunc fn first caps=>ret (.clo fn (first.toList.map q) (caps.toList.map q))
 | .nilCheck x=>match q x with
  |.ptr a b=>ret (.ptr a b)
  |.eptr a b=>ret (.eptr a b)
  |.vptr a b c d=>ret (.vptr a b c d)
  |.clo (.func f) a b=>ret (.clo (.func f) a b)
  |_=>.err
 |.call c=>Y1 E q v n c
 | .makeMap t Q2=>match Z4 E.P E.sh t with
  |some o=>.ok {val:=.mp n,nw:=[o]}
  |none=>.err
 |.insert t m k x=>wQ E.P v t (q m) (q k) (q x)
 |.mapUpdate t m k x=>wQ E.P v t (q m) (q k) (q x)
 |.lookup t x i two=>ms E.P v t (q x) (q i) two
 |.mapEntry t m k=>wP E.P v t (q m) (q k)
 |.entryStore _ m s x=>pK v (q m) (q s) (q x)
 |_=>.err
mutual
def AV.ids:AV->List Nat
 |.vec id|.ptr id _|.vptr id _ _ _|.mp id=>[id]
 |.eptr x _|.agg x|.tup x=>AV.idsL x
 |.clo _ a b=>AV.idsL a++AV.idsL b
 |_=>[]
def AV.idsL:List AV->List Nat
 |[]=>[]
 |v::r=>v.ids++AV.idsL r
end
mutual
def AV.ren(f:Nat->Nat):AV->AV
 |.vec id=>.vec (f id)
 |.ptr id o=>.ptr (f id) o
 |.vptr id sz i o=>.vptr (f id) sz i o
 |.mp id=>.mp (f id)
 |.eptr x o=>.eptr (AV.renL f x) o
 |.agg x=>.agg (AV.renL f x)
 |.tup x=>.tup (AV.renL f x)
 |.clo g a b=>.clo g (AV.renL f a) (AV.renL f b)
 |v=>v
def AV.renL(f:Nat->Nat):List AV->List AV
 |[]=>[]
 |v::r=>v.ren f::AV.renL f r
end
def AO.ids:AO->List Nat
 |.box x=>AV.idsL x
 |.fmap p=>AV.idsL (p.map (·.2))
 |_=>[]
def AO.ren(f:Nat->Nat):AO->AO
 |.box x=>.box (AV.renL f x)
 |.fmap q=>.fmap (q.map λp=>(p.1,p.2.ren f))
 |o=>o
def lD(x:Nat->AO):Nat->List Nat->List Nat->List Nat
 |0,_,s=>s
 |_+1,[],s=>s
 |n+1,i::r,s=>if s.contains i then lD x n r s else lD x n (r++(x i).ids) (s++[i])
def jt:Op->Bool
 |.load ..|.store ..|.indexAddr ..|.buildSlice ..|.slice ..|.call _|.insert ..|.mapUpdate ..|.lookup ..|.mapEntry ..|.entryStore ..=>O
 |_=>S
def vt:Op->Bool
 |.call _=>O
 |_=>S
def wV(p:Nat->AO)(x:Operand->AV)(o:Oper):List Nat:=
 if vt o.op then lD p 400 (AV.idsL (o.op.operands.toList.map x)) []else if jt o.op then AV.idsL (o.op.operands.toList.map x)else[]
def NU(p:Nat->AO)(x:Operand->AV)(o:Oper):Bool:=
 !jt o.op||(AV.idsL (o.op.operands.toList.map x)).all (λi=>(wV p x o).contains i)&&(!vt o.op||(wV p x o).all (λi=>(p i).ids.all λj=>(wV p x o).contains j))
structure HO where
 fp:List Nat:=[]
 wr:List Nat:=[]
 base:Nat:=0
 nw:Nat:=0
structure RS where
 tmps:List AV
 heap:List AO
 known:List (Nat×Bool):=[]
 touched:Bool:=S
 log:List HO:=[]
def RS.hp(s:RS)(id:Nat):AO:=s.heap.getD id .dead
def yE(E:cu)(tmps:List AV)(known:List (Nat×Bool)):Operand->AV
 | .tmp t=>match known.lookup t with
  |some b=>.kb b
  |none=>tmps.getD t .any
 |.const v=>Ca v
 |.global g=>E.gl g
 |.func f=>.clo (.func f) [] []
def pn(h:List AO):List (Nat×AO)->List AO
 |[]=>h
 |(i,o)::r=>pn (h.set i o) r
def mX(tmps:List AV)(x:Option Tmp)(v:AV):List AV:=match x with
 |some d=>tmps.set d v
 |none=>tmps
def vI(known:List (Nat×Bool))(x:Option Tmp):List (Nat×Bool):=match x with
 |some d=>known.filter λp=>p.1!=d
 |none=>known
def Hn(E:cu)(o:Oper)(s:RS):Tr RS:=
  if NU s.hp (yE E s.tmps s.known) o then
  (rB E (yE E s.tmps s.known) s.hp s.heap.length o).bind λf=>
    if f.wr.all (λp=>p.1<s.heap.length&&(wV s.hp (yE E s.tmps s.known) o).contains p.1)then
    .ok {tmps:=mX s.tmps o.dst f.val,heap:=pn s.heap f.wr++f.nw,known:=vI s.known o.dst,
          touched:=s.touched||!(f.wr.isEmpty&&f.nw.isEmpty),
          log:=s.log++[{fp:=wV s.hp (yE E s.tmps s.known) o,wr:=f.wr.map (·.1),base:=s.heap.length,nw:=f.nw.length}]}
    else .err
  else .err
def nZ(o:Oper)(s:RS):RS:=
 {s with tmps:=mX s.tmps o.dst (.tup []),known:=vI s.known o.dst,log:=s.log++[{}]}
def wc(E:cu)(p:List Oper)(s:RS)(o:Oper):Tr RS:=
 match o.guard with
 |none=>Hn E o s
 | some (j,x)=>match (p[j]?).bind (·.dst) with
  |none=>.ok (nZ o s)
  | some d=>match yE E s.tmps s.known (.tmp d) with
   |.kb b=>if b==x then Hn E o s else .ok (nZ o s)
   |.tup _=>.ok (nZ o s)
   | .bool b=>
    let y:RS:={s with known:=(d,O)::s.known}
    let q:RS:={s with known:=(d,S)::s.known}
    .br b (ite x (Hn E o y) (.ok (nZ o y))) (ite x (.ok (nZ o q)) (Hn E o q))
   |_=>.err
def cq(E:cu)(ops:List Oper):List Oper->RS->Tr RS
 |[],s=>.ok s
 |o::r,s=>(wc E ops s o).bind (cq E ops r)
def Vu(x:List Oper):List Nat:=x.filterMap (·.dst)
def ec(c:Bool):List Nat->List AV->List AV->List AV->List AV
 |[],p,_,_=>p
 |d::r,p,t,f=>ec c r (p.set d ((tp c (t.getD d .any) (f.getD d .any)).getD .any)) t f
def zd5:AV->AV->Bool
 |.clo (.func a) _ _,.clo (.func b) _ _=>a !=b
 |.clo _ _ _,.nilf=>O
 |.nilf,.clo _ _ _=>O
 |_,_=>S
def wE(x:List Nat)(l p:List AV):Bool:=x.any λd=>zd5 (l.getD d .any) (p.getD d .any)
def Cg(x:List Nat)(p:List AV):Tr RS->Option (Option Bool×List AV)
 |.err=>Q2
 |.ok s=>if s.touched then Q2 else M (Q2,s.tmps)
 | .chk c t=>match Cg x p t with
  |some (Q2,l)=>M (M c,l)
  |some (M u,l)=>M (M (c&&u),l)
  |none=>Q2
 | .br c t f=>match Cg x p t,Cg x p f with
  |some (Q2,l),M (Q2,q)=>if wE x l q then Q2 else M (Q2,ec c x p l q)
  |some (M a,l),M (Q2,q)=>if wE x l q then Q2 else M (M (cond c a O),ec c x p l q)
  |some (Q2,l),M (M b,q)=>if wE x l q then Q2 else M (M (cond c O b),ec c x p l q)
  |some (M a,l),M (M b,q)=>if wE x l q then Q2 else M (M (cond c a b),ec c x p l q)
  |_,_=>Q2
def ztl{α:Type}:Tr α->Bool
 |.br ..=>O
 |.chk _ t=>ztl t
 |_=>S
def zdv:List Oper->List (List Nat)->List (List Nat)
 |[],x=>x
 |o::r,x=>zdv r (x++[o.after.toList.flatMap λe=>if Region.binds .any e then e.on::x.getD e.on []else[]])
def fL(x:List Oper)(o:Oper):List Nat:=
  (o.op.operands.toList.filterMap λ|.tmp t=>M t|_=>Q2)++
  (match o.guard with
   |some (j,_)=>((x[j]?).bind (·.dst)).toList
   |none=>[])
def js(a b:List Nat):Bool:=a.any λx=>b.contains x
def ig(r:HO)(x:Nat):Bool:=T (r.base<=x)&&T (x<r.base+r.nw)
def wD(x:List Oper)(p q:Oper)(ri rj:HO):Bool:=
 js p.dst.toList (fL x q)||js p.dst.toList q.dst.toList||js (fL x p) q.dst.toList||
 js ri.wr rj.fp||js ri.fp rj.wr||rj.fp.any (ig ri)||ri.fp.any (ig rj)
def ed(r:HO)(id:Nat):Bool:=r.wr.contains id||ig r id
def zbC(x:List Oper)(s:List HO)(v:List (List Nat))(i j:Nat)(p q:Oper)(t u:HO):Bool:=
 match p.op,q.op,t.fp,u.wr with
 | .lookup _ _ _ Q4,.mapEntry _ _ _,[a],[b]=>b==a&&t.wr.isEmpty&&t.nw==0&&u.nw==0&&
  !(js p.dst.toList (fL x q)||js p.dst.toList q.dst.toList||js (fL x p) q.dst.toList)&&
  (List.range (X x)).all λl=>match s[l]? with
   |some y=>!ed y a||T (l<i)||l==j||(T (j<l)&&(v.getD l []).contains i)
   |none=>S
 |_,_,_,_=>S
def xn(x:List Oper)(q:List HO):Bool:=
 let s:=zdv x []
 (x.zipIdx.all λp=>p.1.after.toList.all λe=>!Region.binds .any e||T (e.on<p.2))&&
 (List.range (X x)).all λj=>(List.range j).all λi=>
  match x[i]?,x[j]?,q[i]?,q[j]? with
  |some t,M u,M v,M y=>!wD x t u v y||(s.getD j []).contains i||zbC x q s i j t u v y
  |_,_,_,_=>S
def checked(x:List Oper):Tr RS->Tr RS
 |.err=>.err
 |.chk c t=>.chk c (checked x t)
 |.br c t f=>.br c (checked x t) (checked x f)
 |.ok s=>if xn x s.log then .ok s else .err
def RS.out(s:RS):St:={tmps:=s.tmps,heap:=s.heap}
def jZ(E:cu)(ops:List Oper)(draw:Bool)(x:St):Tr St:=
 let t0:=cq E ops ops {tmps:=x.tmps,heap:=x.heap}
 let t:=if draw then checked ops t0 else t0
 if ztl t then match Cg (Vu ops) x.tmps t with
  |some (Q2,l)=>.ok {x with tmps:=l}
  |some (M c,l)=>.chk c (.ok {x with tmps:=l})
  |none=>t.bind λs=>.ok s.out
 else t.bind λs=>.ok s.out
inductive zR where
 |head (key:Nat) (k:List Item) (st:St)
 |ret (v:AV) (heap:List AO)
 |fork (c:Bool) (k1 k2:List Item) (st:St)
def KR:Code->Code->Option (Nat×Nat×Nat×TypeId×Code×Code)
 | .region _ ops Q4,.cond (.tmp d') a b=>match ops.toList with
  | [o1,o2]=>match o1.dst,o1.op,o1.guard,o2.dst,o2.op,o2.guard with
   |some x,.move (.tmp s),Q2,M d,.binOp .eql t (.tmp p) (.const (.slice Q2 0 0)) _,Q2=>if p=x/\d'=d/\x≠d then M (s,x,d,t,a,b)else Q2
   |_,_,_,_,_,_=>Q2
  |_=>Q2
 |_,_=>Q2
def Kk(x:Nat->AO):AV->Option Bool
 |.nils=>M O
 |.sl _ l=>M l.isEmpty
 | .vec id=>match x id with
  |.vec _ l=>M l.isEmpty
  |.frz _ l=>M l.isEmpty
  |_=>Q2
 |_=>Q2
def Rl(P:Program)(t:TypeId):Bool:=match P.underlying t with
 |some (.slice _)=>O
 |_=>S
def Ht(keep:List Nat):Nat->List AV->List AV
 |_,[]=>[]
 |i,v::r=>(ite (keep.contains i) v (.any))::Ht keep (i+1) r
def xq(x:St):Nat×Option Nat×Sh->St
 | (s,Q2,e)=>match x.tmps.getD s .any with
  |.nils=>{tmps:=x.tmps.set s (.vec x.heap.length),heap:=x.heap++[.vec e []]}
  |_=>x
 | (s,some c,e)=>match x.tmps.getD s .any with
  | .ptr id 0=>match x.hp id with
   | .box p=>match p.getD c .any with
    |.nils=>{tmps:=x.tmps,heap:=x.heap.set id (.box (p.set c (.vec x.heap.length)))++[.vec e []]}
    |_=>x
   |_=>x
  |_=>x
def JG(x:St):Nat×Nat->St
 | (s,c)=>match x.tmps.getD s .any with
  | .ptr id 0=>match x.hp id with
   | .box p=>match p.getD c .any with
    | .vec k=>match ER (x.hp k) with
     |.frz e l=>{tmps:=x.tmps,heap:=(x.heap.set k (.frz e l)).set id (.box (p.set c (.sl e l)))}
     |_=>x
    |_=>x
   |_=>x
  |_=>x
structure aX where
 slots:List Nat:=[]
 prom:List (Nat×Option Nat×Sh):=[]
 unroll:Bool:=S
 sett:List (Nat×Nat):=[]
 cut:Bool:=S
def TG:List Nat->Bool
 |[]=>O
 |i::r=>!r.contains i&&TG r
def lL(hp:Nat->AO)(n0:Nat)(p x:List Nat):Bool:=
 p.all (λi=>x.contains i)&&x.all (λi=>(hp i).ids.all λj=>x.contains j)&&TG x&&x.take n0==List.range n0
def zjd(n0:Nat)(s:St):Option St:=
 let x:=lD s.hp 400 (List.range n0++AV.idsL s.tmps) []
 if lL s.hp n0 (AV.idsL s.tmps) x then
  M {tmps:=AV.renL (λi=>x.idxOf i) s.tmps,heap:=x.map λi=>(s.hp i).ren λi=>x.idxOf i}
 else Q2
def zny(n0:Nat)(k:aX)(s:St):Option St:=
 zjd n0 (k.prom.foldl xq {s with tmps:=Ht k.slots 0 s.tmps})
def my(n0:Nat)(k:aX)(x:Nat)(t:List Item)(p:St):Tr zR:=
 match zny n0 k p with
 |some s=>.ok (.head x t s)
 |none=>.err
def fq:Code->Nat
 |.region id _ _=>id
 |.seq a _=>fq a
 |.block _ c=>fq c
 |.loop c=>fq c
 |.scope c=>fq c
 |_=>0
def LQ(E:cu)(s:St):ResultVar->Option AV
 |.tmp t=>M (s.tmps.getD t .any)
 | .cell a t=>match s.tmps.getD a .any with
  | .ptr id off=>match s.hp id with
   |.box x=>uP E.P t x off
   |_=>Q2
  |_=>Q2
def xT(E:cu)(s:St):List ResultVar->Option (List AV)
 |[]=>M []
 | r::rs=>match LQ E s r,xT E s rs with
  |some v,M x=>M (v::x)
  |_,_=>Q2
def KY:List AV->AV
 |[v]=>v
 |vs=>.tup vs
def xS(E:cu)(n0:Nat)(p:List ResultVar)(s:St):Tr zR:=
 match xT E s p with
 | some q=>
  let v:AV:=KY q
  let x:=lD s.hp 400 (List.range n0++v.ids) []
  if lL s.hp n0 v.ids x then .ok (.ret (v.ren λi=>x.idxOf i) (x.map λi=>(s.hp i).ren λi=>x.idxOf i))else .err
 |none=>.err
def Cy(s:St)(c:Operand)(b:Bool):St:=match c with
 |.tmp t=>{s with tmps:=s.tmps.set t (.kb b)}
 |_=>s
def run(E:cu)(n0:Nat)(keep:Nat->aX)(q:List ResultVar):Nat->List Item->St->Tr zR
 |0,_,_=>.err
 | n + 1,v,p=>match v with
  |[]=>xS E n0 q ((keep 1000000).sett.foldl JG ((keep 1000000).prom.foldl xq p))
  |.inBlock _::k=>run E n0 keep q n k p
  |.inLoop c::k=>if(keep (fq c)).unroll then run E n0 keep q n (.code c::.inLoop c::k) p else my n0 (keep (fq c)) (fq c) (.code c::.inLoop c::k) p
  | .code c::k=>match c with
   |.skip=>run E n0 keep q n k p
   |.label _=>run E n0 keep q n k p
   | .seq a b=>match KR a b with
    | some (s,x,d,t,z,y)=>match Kk p.hp (p.tmps.getD s .any) with
     |some c=>if Rl E.P t&&(T (d<p.tmps.length)&&T (x<p.tmps.length))then .ok (.fork c (.code z::k) (.code y::k) {p with tmps:=(p.tmps.set x (p.tmps.getD s .any)).set d .any})else .err
     |none=>.err
    |none=>run E n0 keep q n (.code a::.code b::k) p
   | .cond c a b=>match yE E p.tmps [] c with
    |.kb O=>run E n0 keep q n (.code a::k) p
    |.kb S=>run E n0 keep q n (.code b::k) p
    |.bool x=>.br x (run E n0 keep q n (.code a::k) (Cy p c O)) (run E n0 keep q n (.code b::k) (Cy p c S))
    |_=>.err
   |.block id c=>run E n0 keep q n (.code c::.inBlock id::k) p
   |.loop c=>if(keep (fq c)).unroll then run E n0 keep q n (.code c::.inLoop c::k) p else my n0 (keep (fq c)) (fq c) (.code c::.inLoop c::k) p
   | .exit id=>match exitTo id k with
    |some k'=>run E n0 keep q n k' p
    |none=>.err
   |.ret=>xS E n0 q ((keep 1000000).sett.foldl JG ((keep 1000000).prom.foldl xq p))
   |.region id ops draw=>(jZ E ops.toList draw p).bind λu=>if(keep (id+500000)).cut then my n0 (keep (id+500000)) (id+500000) k u else run E n0 keep q n k u
   |_=>.err
  |_=>.err
def bg(n:Nat)(x:List AV)(heap:List AO):St:={tmps:=x++List.replicate (n-X x) (.tup []),heap}
def tm(n:Nat)(l:List (Nat×AV)):List AV:=l.foldl (λa p=>a.set p.1 p.2) (List.replicate n .any)
open Tr (chk br)
open AV (nils agg tup ptr kb str sl)
def dv(k:IntKind)(n:Int):Prop:=k.min<=n/\n<=k.max
def aD:Nat:=9223372036854775807
theorem um{p:Prop}(h:p:=by unfold aD;omega):p:=h
inductive Rv (w:World) (U:Nat->Prop) (ρ:Nat->Option Value):AV->Value->Prop
 |any (v:Value):Rv w U ρ .any v
 |kb (b:Bool):Rv w U ρ (.kb b) (.bool b)
 |bool (b:Bool):Rv w U ρ (.bool b) (.bool b)
 |int (k:IntKind) (n:Int) (h:dv k n):Rv w U ρ (.int k n) (.int k n)
 |str (s:zJ) (h:Io s<=aD):Rv w U ρ (.str s) (.string ⟨s.toArray⟩)
 |nils (a:Option Addr):Rv w U ρ .nils (.slice a 0 0)
 |sl0 (e:Sh) (a:Option Addr) (c:Nat):Rv w U ρ (.sl e []) (.slice a 0 c)
 | sl (e:Sh) (l:List (Sem e)) (b o c:Nat) (vals:Nat→Nat→Value) (hc:Io l≤c) (hm:Io l≤aD) (hb:b < w.heap.size) (hU:¬ U b)
   (hcell:∀i j,i<Io l->j<e.size->w.cell? ⟨b,o+i*e.size+j,Q2⟩=Q1 (vals i j))
   (hr:∀i(hi:i<Io l)(j:Nat)(c:AV),(zC e l[i])[j]?=Q1 c->Rv w U ρ c (vals i j)):
   Rv w U ρ (.sl e l) (.slice (Q1 ⟨b,o,Q2⟩) (Io l) c)
 |vec (id:Nat) (v:Value) (h:ρ id=Q1 v) (h1:v.oneCell'=Q3):Rv w U ρ (.vec id) v
 |ptr (id off b:Nat) (h:ρ id=Q1 (.pointer (Q1 ⟨b,0,Q2⟩))):Rv w U ρ (.ptr id off) (.pointer (Q1 ⟨b,off,Q2⟩))
 |vptr (id sz i off b n c:Nat) (h:ρ id=Q1 (.slice (Q1 ⟨b,0,Q2⟩) n c)):Rv w U ρ (.vptr id sz i off) (.pointer (Q1 ⟨b,i*sz+off,Q2⟩))
 | eptr (cs:List AV) (off b o:Nat) (vals:Nat→Value) (hb:b < w.heap.size) (hU:¬ U b)
   (hcell:∀j,j<Io cs->w.cell? ⟨b,o+j,Q2⟩=Q1 (vals j)) (h1:∀j,j<Io cs->(vals j).oneCell'=Q3)
   (hr:∀(j:Nat)(c:AV),cs[j]?=Q1 c->Rv w U ρ c (vals j)):Rv w U ρ (.eptr cs off) (.pointer (Q1 ⟨b,o+off,Q2⟩))
 |nilp:Rv w U ρ .nilp (.pointer Q2)
 | agg (cs:List AV) (vs:List Value) (hl:Io cs=Io vs) (h1:∀ v∈vs,v.oneCell'=Q3)
   (hr:∀(j:Nat)(c:AV)(v:Value),cs[j]?=Q1 c->vs[j]?=Q1 v->Rv w U ρ c v):Rv w U ρ (.agg cs) (.agg vs.toArray)
 | tup (cs:List AV) (vs:List Value) (hl:Io cs=Io vs)
   (hr:∀(j:Nat)(c:AV)(v:Value),cs[j]?=Q1 c->vs[j]?=Q1 v->Rv w U ρ c v):Rv w U ρ (.tup cs) (.tuple vs.toArray)
 | clo (fn:Fn) (fs cs:List AV) (vf vc:List Value) (hf:Io fs=Io vf) (hc:Io cs=Io vc)
   (hrf:∀(j:Nat)(c:AV)(v:Value),fs[j]?=Q1 c->vf[j]?=Q1 v->Rv w U ρ c v) (hrc:∀(j:Nat)(c:AV)(v:Value),cs[j]?=Q1 c->vc[j]?=Q1 v->Rv w U ρ c v):
   Rv w U ρ (.clo fn fs cs) (.func fn vf.toArray vc.toArray)
 |nilf:Rv w U ρ .nilf .nilFunc
 |mp (id:Nat) (v:Value) (h:ρ id=Q1 v) (h1:v.oneCell'=Q3):Rv w U ρ (.mp id) v
 |ifcN:Rv w U ρ (.ifc Q3) .nilIface
 |ifcS (t:TypeId) (v:Value):Rv w U ρ (.ifc Q4) (.iface t v)
 |tab (k:IntKind) (zs:List Int) (b:Nat) (T:TypeId) (fr:Nat×Nat) (hb:w.heap[b]?=Q1 (.cells (zs.map λz=>Value.int k z).toArray T fr)) (hU:¬U b):Rv w U ρ (.tab k zs) (.pointer (Q1 ⟨b,0,Q2⟩))
 |gint (m:Int) (b:Nat) (T:TypeId) (fr:Nat×Nat) (hm:dv .i64 m) (hb:w.heap[b]?=Q1 (.cells #[Value.int .i64 m] T fr)) (hU:¬U b):Rv w U ρ .gint (.pointer (Q1 ⟨b,0,Q2⟩))
structure dn (w:World) (U:Nat->Prop) (ρ:Nat->Option Value) (cs:List AV) (vs:List Value):Prop where
 len:X cs=X vs
 rv:∀(j:Nat)(c:AV)(v:Value),cs[j]?=M c->vs[j]?=M v->Rv w U ρ c v
theorem wB{w:World}{b o:Nat}{v:Value}(h:w.cell? ⟨b,o,Q2⟩=M v):b<w.heap.size:=by unfold World.cell? at h;grind
variable {w':World}{U U':Nat->Prop}{ρ ρ':Nat->Option Value}{c:AV}
theorem Rv.mono{w:World}(hs:w.heap.size<=w'.heap.size)
  (hk:∀b,b<w.heap.size->¬U b->w'.heap[b]?=w.heap[b]?) (hu:∀b,b<w.heap.size->U' b->U b) (hρ:∀id v,ρ id=M v->ρ' id=M v)
   {v:Value} (h:Rv w U ρ c v):Rv w' U' ρ' c v:=by
 have u:∀b o v,¬U b->w.cell? ⟨b,o,Q2⟩=M v->w'.cell? ⟨b,o,Q2⟩=M v:=by
  intro b o v p hc;rw[World.cell?_of_block (hk b (wB hc) p)];exact hc
 induction h with
 |any v=>exact .any v
 |kb b=>exact .kb b
 |bool b=>exact .bool b
 |int k n h=>exact .int k n h
 |str s h=>exact .str s h
 |nils a=>exact .nils a
 |sl0 e a c=>exact .sl0 e a c
 | sl e l b o c h0 hc hm p q h2 hr ih=>
  exact .sl e l b o c h0 hc hm (ia p hs) (λh=>q (hu b p h)) (λi j hi hj=>u _ _ _ q (h2 i j hi hj)) ih
 |vec id v h h1=>exact .vec id v (hρ _ _ h) h1
 |ptr id z b h=>exact .ptr id z b (hρ _ _ h)
 |vptr id sz i z b n c h=>exact .vptr id sz i z b n c (hρ _ _ h)
 | eptr cs z b o h0 p q h2 h1 hr ih=>
  exact .eptr cs z b o h0 (ia p hs) (λh=>q (hu b p h)) (λj hj=>u _ _ _ q (h2 j hj)) h1 ih
 |nilp=>exact .nilp
 |agg cs vs hl h1 hr ih=>exact .agg cs vs hl h1 ih
 |tup cs vs hl hr ih=>exact .tup cs vs hl ih
 |clo fn fs cs vf vc hf hc h6 h5 h4 h3=>exact .clo fn fs cs vf vc hf hc h4 h3
 |nilf=>exact .nilf
 |mp id v h h1=>exact .mp id v (hρ _ _ h) h1
 |ifcN=>exact .ifcN
 |ifcS t v=>exact .ifcS t v
 | tab k zs b x fr p q=>
  have y:b<w.heap.size:=(mU.1 p).1;exact .tab k zs b x fr (by rw[hk b y q];exact p) (λh=>q (hu b y h))
 | gint m b x fr hm p q=>
  have y:b<w.heap.size:=(mU.1 p).1;exact .gint m b x fr hm (by rw[hk b y q];exact p) (λh=>q (hu b y h))
theorem dn.mono{w:World}{x:Nat->Prop}(u:w.heap.size<=w'.heap.size)
  (t:∀b,b<w.heap.size->¬U b->w'.heap[b]?=w.heap[b]?) (y:∀b,b<w.heap.size->x b->U b) (hρ:∀id v,ρ id=M v->ρ' id=M v)
  {p:List AV} {s:List Value} (h:dn w U ρ p s):dn w' x ρ' p s:=
 ⟨h.len,λj c v q z=>(h.rv j c v q z).mono u t y hρ⟩
theorem Rv.weak{w:World}(x:∀b,U' b->U b){v:Value}(h:Rv w U ρ c v):Rv w U' ρ c v:=
 h.mono (zM _) (λ_ _ _=>rfl) (λb _=>x b) (λ_ _ h=>h)
def AO.owns:AO->Bool
 |.box _|.vec _ _|.fmap _|.vmap _ _|.gmap _ _=>O
 |_=>S
def cd:Value->Option Nat
 |.pointer (M a)=>M a.block
 |.slice (M a) _ c=>if c=0 then Q2 else M a.block
 |.map (M r)=>M r
 |_=>Q2
def an(ρ:Nat->Option Value)(id:Nat)(o:AO)(b:Nat):Prop:=o.owns=O/\∃v,ρ id=M v/\cd v=M b
def cP(k:Int×Int×zJ):Value:=.agg #[.int .i64 k.1,.int .i64 k.2.1,.string ⟨k.q.toArray⟩]
def eX(k:Int×Int×zJ):Prop:=dv .i64 k.1/\dv .i64 k.2.1/\X k.q<=aD
def mZ(x:Array MapEntry)(p:Nat):Prop:=p=x.size/\∀(i:Nat)(e:MapEntry),x[i]?=M e->e.born=i
def wL(u:Bool)(n:Int):Value:=bif u then .agg #[]else .int .i64 n
def bv(w:World)(U:Nat->Prop)(ρ:Nat->Option Value)(id:Nat):AO->Prop
 |.dead=>True
 |.box cs=>∃b x vals,ρ id=M (.pointer (M ⟨b,0,Q2⟩))/\U b/\w.heap[b]?=M (.cells vals x (0,0))/\dn w U ρ cs vals.toList/\∀v∈vals.toList,v.oneCell'=O
 | .vec e l=>∃ a c,ρ id=Q1 (.slice a (Io l) c)∧Io l≤aD∧((l=[]∧c=0)∨∃ b x y,a=Q1 ⟨b,0,Q2⟩∧0 < c∧U b∧w.heap[b]?=Q1 (.cells y x (0,0))∧
   y.size=c*e.size/\X l<=c/\∀i(hi:i<X l)(j:Nat)(c:AV),(zC e l[i])[j]?=M c->∃v,y[i*e.size+j]?=M v/\Rv w U ρ c v)
 |.frz e l=>∃v,ρ id=M v/\Rv w U ρ (.sl e l) v
 | .fmap t=>∃ r q s,ρ id=Q1 (.map (Q1 r))∧U r∧w.heap[r]?=Q1 (.map q s)∧dn w U ρ (t.map (·.2)) (q.toList.map (·.val))∧
   q.toList.map (·.key)=t.map λp=>Value.string ⟨p.1.toArray⟩
 | .vmap u t=>∃ r q s,ρ id=Q1 (.map (Q1 r))∧U r∧w.heap[r]?=Q1 (.map q s)∧(q.toList.map fun e=>(e.key,e.val))=(t.map fun p=>(cP p.1,wL u p.2))∧
   (∀p∈t,dv .i64 p.2/\eX p.1)/\mZ q s
 | .gmap e t=>∃ (r:Nat) (q:Array MapEntry) (s:Nat) (z:List ((Int×Int×zJ)×Value)),ρ id=Q1 (.map (Q1 r))∧U r∧w.heap[r]?=Q1 (.map q s)∧dn w U ρ (t.map fun p=>sl e p.2) (z.map (·.2))∧
   (q.toList.map λe=>(e.key,e.val))=(z.map λp=>(cP p.1,p.2))/\z.map (·.1)=t.map (·.1)/\∀p∈z,eX p.1
theorem bv.mono{w:World}(hs:w.heap.size<=w'.heap.size)
  (hk:∀b,b<w.heap.size->¬U b->w'.heap[b]?=w.heap[b]?) (hu:∀b,b<w.heap.size->U' b->U b) (z:∀id v,ρ id=M v->ρ' id=M v)
  {id:Nat} {o:AO} (h:bv w U ρ id o) (s:∀b,an ρ id o b->w'.heap[b]?=w.heap[b]?/\U' b):bv w' U' ρ' id o:=by
 cases o with
 |dead=>trivial
 | box cs=>
  have⟨b,x,h0,t,h2,y,h4,h5⟩:=h;have:=s b ⟨rfl,_,t,rfl⟩;exact⟨b,x,h0,z _ _ t,this.2,by rw[this.1];exact y,h4.mono hs hk hu z,h5⟩
 | vec e l=>
  have⟨a,c,t,h2,y⟩:=h;refine⟨a,c,z _ _ t,h2,?_⟩;rcases y with y|⟨b,x,h6,rfl,hc,hU,hb,h9,h7,hr⟩
  .exact .inl y
  .have:=s b ⟨rfl,_,t,by simp[cd];omega⟩;refine .inr ⟨b,x,h6,rfl,hc,this.2,by rw[this.1];exact hb,h9,h7,λi hi j c hx=>?_⟩;have⟨v,hv,h8⟩:=hr i hi j c hx;exact⟨v,hv,h8.mono hs hk hu z⟩
 | frz e l=>
  have⟨v,t,h2⟩:=h;exact⟨v,z _ _ t,h2.mono hs hk hu z⟩
 | fmap es=>
  have⟨r,q,p,t,h2,y,h4,h5⟩:=h;have:=s r ⟨rfl,_,t,rfl⟩;exact⟨r,q,p,z _ _ t,this.2,by rw[this.1];exact y,h4.mono hs hk hu z,h5⟩
 | vmap u es=>
  have⟨r,q,p,t,h2,y,h4,h5⟩:=h;have:=s r ⟨rfl,_,t,rfl⟩;exact⟨r,q,p,z _ _ t,this.2,by rw[this.1];exact y,h4,h5⟩
 | gmap e es=>
  have⟨r,q,p,gs,t,h2,y,h4,h5⟩:=h;have:=s r ⟨rfl,_,t,rfl⟩;exact⟨r,q,p,gs,z _ _ t,this.2,by rw[this.1];exact y,h4.mono hs hk hu z,h5⟩
theorem bv.inU{w:World}{id:Nat}{o:AO}(h:bv w U ρ id o){b:Nat}(hb:an ρ id o b):U b/\b<w.heap.size:=by
 have⟨ho,v,s,p⟩:=hb;cases o with
 |dead=>simp[AO.owns]at ho
 |frz e l=>simp[AO.owns]at ho
 | box cs=>
  have⟨b',x,h0,t,h2,z,h4,h5⟩:=h;rw[t]at s;cases s;simp[cd]at p;grind
 | vec e l=>
  have⟨a,c,t,h2,z⟩:=h;rw[t]at s;cases s;rcases z with⟨_,rfl⟩|⟨b',x,h6,rfl,hc,hU,h7,_⟩
  .cases a<;>simp[cd]at p
  .simp[cd]at p;grind
 | fmap es=>
  have⟨r,y,q,t,h2,z,h4,h5⟩:=h;rw[t]at s;cases s;simp[cd]at p;grind
 | vmap u es=>
  have⟨r,y,q,t,h2,z,h4,h5⟩:=h;rw[t]at s;cases s;simp[cd]at p;grind
 | gmap e es=>
  have⟨r,y,q,gs,t,h2,z,h4,h5⟩:=h;rw[t]at s;cases s;simp[cd]at p;grind
theorem ao:∀(s:Sh)(x:Sem s),(zC s x).length=s.size
 |.unit,_=>rfl
 |.bool,_=>rfl
 |.int _,_=>rfl
 |.str,_=>rfl
 |.sl _,_=>rfl
 |.pr a b,x=>by simp[zC,Sh.size,ao a,ao b]
 |.expr,_=>rfl
theorem wt{w:World}{hp:Nat->AO}{e:Sh}{l:List (Sem e)}{v:Value}
  (h:vj hp e c=M l) (hr:Rv w U ρ c v) (hu:∀b,U' b->U b)
  (h6:∀id∈dt c,bv w U ρ id (hp id)) (h7:∀id∈dt c,∀b,an ρ id (hp id) b->¬U' b):Rv w U' ρ (.sl e l) v:=by
 cases c<;>simp[vj]at h
 case nils=>
  subst h;cases hr;exact .sl0 e _ _
 case sl q l'=>
  obtain⟨rfl,h⟩:=h;subst h;exact hr.weak hu
 case vec id=>
  cases hr with
  |vec _ _ hv _=>
  have h1:=h6 id (by simp[dt]);have h2:=h7 id (by simp[dt]);cases s:hp id with
  |dead=>simp[s]at h
  |box cs=>simp[s]at h
  |fmap es=>simp[s]at h
  |vmap u es=>simp[s]at h
  |gmap e es=>simp[s]at h
  | frz q l'=>
   simp[s]at h;obtain⟨rfl,h⟩:=h;subst h;rw[s]at h1;have⟨v',p,t⟩:=h1;rw[hv]at p;cases p;exact t.weak hu
  | vec q l'=>
   simp[s]at h;obtain⟨rfl,h⟩:=h;subst h;rw[s]at h1 h2;have⟨a,c,p,hm,h3⟩:=h1;rw[hv]at p;cases p;rcases h3 with⟨hl,hc⟩|⟨b,x,y,rfl,hc,hU,hb,h9,h0,h8⟩
   .show Rv w U' ρ (.sl q l') _;subst hl;exact .sl0 q _ _
   .show Rv w U' ρ (.sl q l') _;have h5:¬U' b:=h2 b ⟨rfl,_,hv,by simp[cd];omega⟩;have z:=(mU.1 hb).1;refine .sl q l' b 0 c (λi j=>(y[i*q.size+j]?).getD undef) h0 hm z h5 (λi j hi hj=>?_) (λi hi j cc hx=>?_)
    .have h4:i*q.size+j<y.size:=by
      rw[h9];have:(i+1)*q.size<=c*q.size:=gD _ ow;rw[jP]at this;omega
     simp[World.cell?,hb,uh h4]
    .have⟨v,x0,t⟩:=h8 i hi j cc hx;simp[x0];exact t.weak hu
theorem pP{w:World}{hp:Nat->AO}(hu:∀b,U' b->U b):
  ∀(s:Sh)(u:List AV)(x:Sem s)(r:List AV)(p:Nat->Value),dD hp s u=M (x,r)->
   (∀(j:Nat)(c:AV),u[j]?=M c->Rv w U ρ c (p j))->(∀id∈u.flatMap dt,bv w U ρ id (hp id)/\∀b,an ρ id (hp id) b->¬U' b)->
   u.length=s.size+X r/\r=u.drop s.size/\∀(j:Nat)(c:AV),(zC s x)[j]?=M c->Rv w U' ρ c (p j):=by
 intro s
 induction s with
 | unit=>
  intro u x r p h z t;simp[dD]at h;subst h;refine⟨by simp[Sh.size],by simp[Sh.size],by simp[zC]⟩
 | bool=>
  intro u x r p h z t;cases u with
  |nil=>simp[dD]at h
  | cons c u=>
   cases c<;>simp[dD]at h<;>(obtain⟨rfl,rfl⟩:=h)<;>refine⟨by simp[Sh.size];omega,by simp[Sh.size],?_⟩
   all_goals
    intro j c q;cases j with
    |succ j=>simp[zC]at q
    | zero=>
     simp[zC]at q;subst q;have:=z 0 _ rfl;generalize p 0=v at this;cases this;exact .bool _
 | int k=>
  intro u x r p h z t;cases u with
  |nil=>simp[dD]at h
  | cons c u=>
   cases c<;>simp[dD]at h
   obtain⟨rfl,rfl,rfl⟩:=h;refine⟨by simp[Sh.size];omega,by simp[Sh.size],?_⟩;intro j c q;cases j with
   |succ j=>simp[zC]at q
   | zero=>
    simp[zC]at q;subst q;exact(z 0 _ rfl).weak hu
 | str=>
  intro u x r p h z t;cases u with
  |nil=>simp[dD]at h
  | cons c u=>
   cases c<;>simp[dD]at h
   obtain⟨rfl,rfl⟩:=h;refine⟨by simp[Sh.size];omega,by simp[Sh.size],?_⟩;intro j c q;cases j with
   |succ j=>simp[zC]at q
   | zero=>
    simp[zC]at q;subst q;exact(z 0 _ rfl).weak hu
 | sl e ih=>
  intro u x r p h z t;cases u with
  |nil=>simp[dD]at h
  | cons c u=>
   simp only[dD]at h;split at h
   .rename_i l hl;cases h;refine⟨by simp[Sh.size];omega,by simp[Sh.size],?_⟩;intro j c q;cases j with
    |succ j=>simp[zC]at q
    | zero=>
     simp[zC]at q;subst q;exact wt hl (z 0 _ rfl) hu (λid y=>(t id (by simp[y])).1) (λid y=>(t id (by simp[y])).2)
   .cases h
 | pr a b h3 h4=>
  intro u x r p h z t;simp only[dD]at h;split at h
  .rename_i x1 r1 h1;split at h
   .rename_i x2 r2 h2;cases h;have⟨l1,e1,g1⟩:=h3 u x1 r1 p h1 z t;subst e1;have⟨l2,e2,g2⟩:=h4 _ x2 r (λj=>p (a.size+j)) h2 (λj c q=>by
      grind)
     (λid y=>t id (by
      grind))
    refine⟨?_,?_,?_⟩
    .simp[Sh.size]at*;omega
    .rw[e2,List.drop_drop];simp[Sh.size]
    .intro j c q;simp only[zC]at q;by_cases h0:j<a.size
     .rw[rl (by rw[ao];exact h0)]at q;exact g1 j c q
     .rw[pu (by rw[ao];omega),ao]at q;grind
   .cases h
  .cases h
 | expr=>
  intro u x r p h z t;simp only[dD]at h;unfold w7 at h;split at h<;>try (cases h;done)
  rename_i op k i vs s c r';split at h
  .rename_i l hl;cases h;refine⟨by simp[Sh.size];omega,by simp[Sh.size],?_⟩;intro j c' q
   match j with
   |0=>simp[zC,zg.op]at q;subst q;exact(z 0 _ rfl).weak hu
   |1=>simp[zC,zg.v]at q;subst q;exact(z 1 _ rfl).weak hu
   |2=>simp[zC,zg.v]at q;subst q;exact(z 2 _ rfl).weak hu
   |3=>simp[zC,zg.v]at q;subst q;exact(z 3 _ rfl).weak hu
   |4=>simp[zC,zg.s]at q;subst q;exact(z 4 _ rfl).weak hu
   | 5=>
    simp[zC,zg.l]at q;subst q;exact wt hl (z 5 _ rfl) hu (λid y=>(t id (by simp[y])).1) (λid y=>(t id (by simp[y])).2)
   |j+6=>simp[zC]at q
  .cases h
@[simp] theorem Tr.val_bind  (t:Tr α) (k:α->Tr β):(t.bind k).val=t.val.bind λa=>(k a).val:=by
 induction t with
 |err=>rfl
 |chk c t q=>cases c<;>simp[Tr.bind,Tr.val,q]
 |br c t f p x=>cases c<;>simp[Tr.bind,Tr.val,p,x]
 |ok a=>rfl
@[simp] theorem Tr.val_err:(Tr.err:Tr α).val=Q2:=rfl
@[simp] theorem Tr.val_ok  (a:α):(Tr.ok a).val=M a:=rfl
@[simp] theorem Tr.val_chk  (c:Bool) (t:Tr α) (a:α):(chk c t).val=M a↔c=O/\t.val=M a:=by cases c<;>simp[Tr.val]
@[simp] theorem zv4 (v:AV) (f:gy):(ret v).val=M f↔f={val:=v}:=by simp[ret,eq_comm]
@[simp] theorem zvS (v:Option AV) (f:gy):(Hu v).val=M f↔∃x,v=M x/\f={val:=x}:=by cases v<;>simp[Hu]
section
variable {P:Program} {w:World} {U:Nat->Prop} {ρ:Nat->Option Value}
variable {n:Nat}
theorem du{t:TypeId}(h:gP P t=M n)(w:World):(Go.sizeOf t).run P w=.ok n w:=by
 unfold gP at h;cases x:P.info? t with
 |none=>simp[x]at h
 |some i=>simp[x]at h;simp[Go.sizeOf,typeInfo,x,h]
theorem kN{t:TypeId}{b:Bool}(h:GR P t=M b)(w:World):(isAgg t).run P w=.ok b w:=by
 unfold GR at h;cases x:P.underlying t with
 |none=>simp[x]at h
 |some d=>cases d<;>simp[x]at h<;>subst h<;>simp[isAgg,bN x]
theorem Addr.add_none(b o n:Nat):(⟨b,o,Q2⟩:Addr).add n=⟨b,o+n,Q2⟩:=by unfold Addr.add;split<;>simp_all
theorem A1{j k:Nat}(h:(List.range n)[j]?=M k):j<n/\k=j:=by grind
theorem vS{t:TypeId}{s:List AV}{p:Nat}{r:AV}{b o:Nat}{vals:Nat->Value}(h:uP P t s p=M r)
  (q:∀j,j<X s->w.cell? ⟨b,o+j,Q2⟩=M (vals j)) (h1:∀j,j<X s->(vals j).oneCell'=O)
  (hr:∀(j:Nat)(c:AV),s[j]?=M c->Rv w U ρ c (vals j)):
  ∃x,(loadVar t ⟨b,o+p,Q2⟩).run P w=.ok x w/\Rv w U ρ r x:=by
 unfold uP at h;split at h
 .rename_i n u hn;split at h
  .rename_i h0;cases h;refine⟨.agg ((List.range n).map λj=>vals (p+j)).toArray,?_,?_⟩
   .have:=run_loadCells_list (P:=P) w ⟨b,o+p,Q2⟩ ((List.range n).map λj=>vals (p+j)) (λj v z=>by
     rw[Addr.add_none];grind)
    simp only[dc,List.length_range]at this;simp[loadVar,kN u,du hn,this]
   .refine .agg _ _ sg (λv z=>?_) (λj c v hc z=>?_)
    .grind
    grind
  .cases h
 next u=>have y:p<X s:=(dF.1 h).1;refine⟨vals p,?_,hr _ _ h⟩;simp[loadVar,kN u,q p y]
 .cases h
theorem Rv.sl_one{e:Sh}{l:List (Sem e)}{v:Value}(h:Rv w U ρ (.sl e l) v):v.oneCell'=O:=by cases h<;>rfl
theorem gI:∀(e:Sh)(x:Sem e)(j:Nat)(c:AV)(v:Value),(zC e x)[j]?=M c->Rv w U ρ c v->v.oneCell'=O
 |.unit,_,_,_,_,h,_=>by simp[zC]at h
 |.bool,_,0,_,_,h,p=>by simp[zC]at h;subst h;cases p;rfl
 |.int _,_,0,_,_,h,p=>by simp[zC]at h;subst h;cases p;rfl
 |.str,_,0,_,_,h,p=>by simp[zC]at h;subst h;cases p;rfl
 |.sl _,_,0,_,_,h,p=>by simp[zC]at h;subst h;cases p<;>rfl
 |.bool,_,_+1,_,_,h,_=>by simp[zC]at h
 |.int _,_,_+1,_,_,h,_=>by simp[zC]at h
 |.str,_,_+1,_,_,h,_=>by simp[zC]at h
 |.sl _,_,_+1,_,_,h,_=>by simp[zC]at h
 | .pr a b,x,j,c,v,h,p=>by
  simp only[zC]at h;rcases Nat.lt_or_ge j (zC a x.1).length with q|q
  .rw[rl q]at h;exact gI a _ _ _ _ h p
  .rw[pu q]at h;exact gI b _ _ _ _ h p
 | .expr,x,j,c,v,h,p=>by
  match j with
  |0=>simp[zC]at h;subst h;cases p;rfl
  |1=>simp[zC]at h;subst h;cases p;rfl
  |2=>simp[zC]at h;subst h;cases p;rfl
  |3=>simp[zC]at h;subst h;cases p;rfl
  |4=>simp[zC]at h;subst h;cases p;rfl
  |5=>simp[zC]at h;subst h;exact p.sl_one
  |_+6=>simp[zC]at h
theorem iN{av:AV}{cs:List AV}{v:Value}(h:cellsOf av=M cs)(hr:Rv w U ρ av v):
  dn w U ρ cs v.cells.toList/\∀x∈v.cells.toList,x.oneCell'=O:=by
 have q:∀{av:AV},v.oneCell'=O->Rv w U ρ av v->dn w U ρ [av] v.cells.toList/\∀x∈v.cells.toList,x.oneCell'=O:=by
  intro av y hr;have:v.cells=#[v]:=by cases v<;>simp[Value.oneCell']at y<;>rfl
  rw[this];refine⟨⟨rfl,λj c x hc hx=>?_⟩,by simpa using y⟩;cases j with
  |zero=>simp_all
  |succ j=>simp at hc
 cases hr with
 |any v=>simp[cellsOf]at h
 |tup cs vs hl hr=>simp[cellsOf]at h
 | agg h5 vs hl y hr=>
  simp[cellsOf]at h;subst h;exact⟨⟨by simp[Value.cells,hl],λj c v hc hv=>hr j c v hc (by simpa[Value.cells]using hv)⟩,by simpa[Value.cells]using y⟩
 |kb b=>simp[cellsOf]at h;subst h;exact q rfl (.kb b)
 |bool b=>simp[cellsOf]at h;subst h;exact q rfl (.bool b)
 |int k n hk=>simp[cellsOf]at h;subst h;exact q rfl (.int k n hk)
 |str s hs=>simp[cellsOf]at h;subst h;exact q rfl (.str s hs)
 |nils a=>simp[cellsOf]at h;subst h;exact q rfl (.nils a)
 |sl0 e a c=>simp[cellsOf]at h;subst h;exact q rfl (.sl0 e a c)
 |sl e l b o c h2 hc hm z hU u hr=>simp[cellsOf]at h;subst h;exact q rfl (.sl e l b o c h2 hc hm z hU u hr)
 |vec id v hv y=>simp[cellsOf]at h;subst h;exact q y (.vec id v hv y)
 |ptr id h0 b z=>simp[cellsOf]at h;subst h;exact q rfl (.ptr id h0 b z)
 |vptr id sz i h0 b n c z=>simp[cellsOf]at h;subst h;exact q rfl (.vptr id sz i h0 b n c z)
 |eptr cs h0 b o h2 z hU u y hr=>simp[cellsOf]at h;subst h;exact q rfl (.eptr cs h0 b o h2 z hU u y hr)
 |nilp=>simp[cellsOf]at h;subst h;exact q rfl .nilp
 |clo fn fs cs vf vc hf hc h4 h3=>simp[cellsOf]at h;subst h;exact q rfl (.clo fn fs cs vf vc hf hc h4 h3)
 |nilf=>simp[cellsOf]at h;subst h;exact q rfl .nilf
 |mp id v hv y=>simp[cellsOf]at h;subst h;exact q y (.mp id v hv y)
 |ifcN=>simp[cellsOf]at h;subst h;exact q rfl .ifcN
 |ifcS t v=>simp[cellsOf]at h;subst h;exact q rfl (.ifcS t v)
 |tab k zs b p fr z hU=>simp[cellsOf]at h;subst h;exact q rfl (.tab k zs b p fr z hU)
 |gint m b p fr hm z hU=>simp[cellsOf]at h;subst h;exact q rfl (.gint m b p fr hm z hU)
theorem Vm{b:Nat}{v:Array Value}{t:TypeId}{x:Nat×Nat}(h:w.heap[b]?=M (.cells v t x))(j:Nat)(p:j<v.size):
  w.cell? ⟨b,j,Q2⟩=M (v.toList.getD j undef):=by simp[World.cell?,h,uh p,List.getD]
variable {f:gy}
theorem IN{hp:Nat->AO}{t:TypeId}{av:AV}{v:Value}(h:(Kx P hp t av).val=M f)(hv:Rv w U ρ av v)
  (x0:∀id∈av.ids,bv w U ρ id (hp id)):∃r x,f={val:=r}/\(Instr.loadAt t v).run P w=.ok x w/\Rv w U ρ r x:=by
 unfold Kx at h;split at h
 .rename_i id x2;cases hv with
  |ptr _ _ b hb=>
  have ho:=x0 id (by simp[AV.ids]);split at h
  .rename_i cs h6;rw[h6]at ho;have⟨b',p,z,s,h2,h3,h4,h5⟩:=ho;rw[hb]at s;cases s;simp at h;obtain⟨r,hr,rfl⟩:=h
   have⟨x,hx,y⟩:=vS (w:=w) (U:=U) (ρ:=ρ) (b:=b) (o:=0) (vals:=λj=>z.toList.getD j undef) hr
    (λj u=>by rw[eI];exact Vm h3 j (by rw[h4.len]at u;simpa using u))
    (λj u=>h5 _ (by
     rw[h4.len]at u;simp_all))
    (λj c hc=>h4.rv j c _ hc (by
     have u:j<z.toList.length:=by rw[<-h4.len];exact(dF.1 hc).1
     simp_all))
   rw[eI]at hx;exact⟨r,x,rfl,by simp[Instr.loadAt,Instr.sureAddr,hx],y⟩
  .simp at h
 .rename_i cs x2;cases hv with
  |eptr _ _ b o z hb hU h0 s hr=>
  simp at h;obtain⟨r,h7,rfl⟩:=h;have⟨x,hx,y⟩:=vS (w:=w) (U:=U) (ρ:=ρ) h7 h0 s hr;exact⟨r,x,rfl,by simp[Instr.loadAt,Instr.sureAddr,hx],y⟩
 .rename_i id sz i x2;cases hv with
  |vptr _ _ _ _ b n c hb=>
  have ho:=x0 id (by simp[AV.ids]);split at h
  .rename_i e l h6;rw[h6]at ho;have⟨a,c',s,hm,h3⟩:=ho;rw[hb]at s;cases s;split at h
   .rename_i x1;subst x1;simp at h;obtain⟨hi,r,hr,rfl⟩:=h;rcases h3 with⟨rfl,_⟩|⟨b',p,h8,x3,hc,hU,x4,x1,x5,h7⟩
    .simp at hi
    .cases x3;have h9:l[i]?.getD (zi e)=l[i]:=by simp[af hi]
     rw[h9]at hr;have q:∀j,j<(zC e l[i]).length->∃v c,h8[i*e.size+j]?=M v/\(zC e l[i])[j]?=M c/\Rv w U ρ c v:=by
      intro j u;have⟨v,s,h2⟩:=h7 i hi j _ (af u);exact⟨v,_,s,af u,h2⟩
     have⟨x,hx,y⟩:=vS (w:=w) (U:=U) (ρ:=ρ) (b:=b) (o:=i*e.size) (vals:=λj=>(h8[i*e.size+j]?).getD undef) hr
      (λj u=>by
       have⟨v,c,s,h2,h3⟩:=q j u;simp[World.cell?,x4,s])
      (λj u=>by
       have⟨v,c,s,h2,h3⟩:=q j u;simp only[s,bI];exact gI _ _ _ _ _ h2 h3)
      (λj c hc=>by
       grind)
     exact⟨r,x,rfl,by simp[Instr.loadAt,Instr.sureAddr,hx],y⟩
   .simp at h
  .simp at h
 .simp at h
theorem QU{t:TypeId}{fl:Nat}{x:AV}{v:Value}(h:(Kv P t fl x).val=M f)(hv:Rv w U ρ x v):
  ∃r p,f={val:=r}/\(Instr.fieldAt t v fl).run P w=.ok p w/\Rv w U ρ r p:=by
 unfold Kv at h;split at h
 .rename_i z s;unfold CC at s;split at s
  .rename_i fs hu;split at h
   .rename_i k hk;have q:∀a:Addr,(fieldPlace a z).run P w=.ok (a.add z.offset) w:=by
     intro a;simp[fieldPlace,du hk]
    split at h
    .rename_i id u;cases hv with
     |ptr _ _ b hb=>
     simp at h;subst h;exact⟨_,_,rfl,by simp[Instr.fieldAt,bN hu,s,Instr.sureAddr,q,Addr.add_none],.ptr id (u+z.offset) b hb⟩
    .rename_i cs u;cases hv with
     |eptr _ _ b o h0 hb hU y h1 hr=>
     simp at h;subst h;refine⟨_,_,rfl,by simp[Instr.fieldAt,bN hu,s,Instr.sureAddr,q,Addr.add_none];rfl,?_⟩;rw[Nat.add_assoc];exact .eptr cs (u+z.offset) b o h0 hb hU y h1 hr
    .rename_i id sz i u;cases hv with
     |vptr _ _ _ _ b n c hb=>
     simp at h;subst h;refine⟨_,_,rfl,by simp[Instr.fieldAt,bN hu,s,Instr.sureAddr,q,Addr.add_none];rfl,?_⟩;rw[Nat.add_assoc];exact .vptr id sz i (u+z.offset) b n c hb
    .simp at h
   .simp at h
  .cases s
 .simp at h
theorem nt{k:Int}:zL k n=O↔0<=k/\k<n:=by simp[zL]
theorem SP{k:Int}{g:Nat->AV}{e:gy}:∀(n i:Nat),(Vd k g i n).val=M e->(i:Int)<=k->k<i+n->e={val:=g k.toNat}
 |0,_,h,_,_=>by simp[Vd]at h
 | 1,i,h,p,q=>by
  have:k.toNat=i:=by omega
  simp[Vd]at h;simp_all
 | n+2,i,h,p,q=>by
  rw[Vd,Tr.val]at h;split at h
  .simp_all
  .rename_i x;have x:k≠i:=by simpa using x
   exact SP (n+1) (i+1) h ow ow
theorem EE{hp:Nat->AO}{t:TypeId}{x ai:AV}{v vi:Value}(h:(rA P hp t x ai).val=M f)
  (hx:Rv w U ρ x v) (hi:Rv w U ρ ai vi) (x1:∀id∈x.ids,bv w U ρ id (hp id)):
  ∃r p,f={val:=r}/\(Instr.indexAt t v vi).run P w=.ok p w/\Rv w U ρ r p:=by
 have h9:∀(e:Sh)(l:List (Sem e))(k:Int)(ik:IntKind)(s:TypeId),P.underlying t=M (.slice s)->gP P s=M e.size->0<=k->k<X l->
   Rv w U ρ (.sl e l) v->∃p,(Instr.indexAt t v (.int ik k)).run P w=.ok p w/\Rv w U ρ (.eptr (zC e (l.getD k.toNat (zi e))) 0) p:=by
  intro e l k ik s hu u h0 h1 hr;cases hr with
  |sl0 _ a c=>simp at h1;omega
  | sl _ _ b o c z hc hm hb hU y h6=>
   have h2:k.toNat<X l:=by omega
   refine⟨.pointer (M ⟨b,o+k.toNat*e.size+0,Q2⟩),?_,?_⟩
   .simp[Instr.indexAt,asIntOf,bN hu,h0,h1,du u,Addr.add_none]
   .have h7:l.getD k.toNat (zi e)=l[k.toNat]:=by simp[List.getD,af h2]
    rw[h7]
    exact .eptr _ 0 b (o+k.toNat*e.size) (λj=>z k.toNat j) hb hU (λj hj=>y _ _ h2 (by rwa [ao]at hj))
     (λj hj=>gI _ _ j _ _ (af hj) (h6 _ h2 j _ (af hj))) (λj c hc=>h6 _ h2 j c hc)
 unfold rA at h;split at h
 .rename_i ik k;cases hi;split at h
  .rename_i s hu;split at h
   .rename_i e l;split at h
    next u=>simp[nt]at h;simp_all
    .simp at h
   .rename_i id;have ho:=x1 id (by simp[AV.ids]);split at h
    .rename_i e l h5;rw[h5]at ho;split at h
     .rename_i u;simp[nt]at h;obtain⟨⟨h0,h1⟩,rfl⟩:=h;have⟨a,c',hr,hm,h3⟩:=ho;cases hx with
      |vec _ _ hv _=>
      rw[hr]at hv;cases hv;rcases h3 with⟨rfl,_⟩|⟨b',q,x3,rfl,hc,hU,x4,x2,x5,h6⟩
      .simp at h1;omega
      .refine⟨_,.pointer (M ⟨b',k.toNat*e.size+0,Q2⟩),rfl,?_,.vptr id e.size k.toNat 0 b' _ _ hr⟩;simp[Instr.indexAt,asIntOf,bN hu,h0,h1,du u,Addr.add_none]
     .simp at h
    .rename_i e l h5;rw[h5]at ho;split at h
     .rename_i u;simp[nt]at h;obtain⟨⟨h0,h1⟩,rfl⟩:=h;have⟨v',x7,x6⟩:=ho;cases hx with
      |vec _ _ hv _=>
      simp_all
     .simp at h
    .simp at h
   .simp at h
  .rename_i x8 s hu;split at h
   .rename_i sz u;split at h
    .rename_i id h4;simp[nt]at h;obtain⟨⟨h0,h1⟩,rfl⟩:=h;cases hx with
     |ptr _ _ b hb=>
     refine⟨_,_,rfl,?_,.ptr id (h4+k.toNat*sz) b hb⟩;simp[Instr.indexAt,asIntOf,bN hu,h0,h1,du u,Addr.add_none,Instr.sureAddr]
    .rename_i cs h4;simp only[Tr.val]at h;split at h;rotate_left
     .cases h
     rename_i x0;have⟨h0,h1⟩:=nt.1 x0;have h:=SP _ _ h ow ow;subst h;cases hx with
     |eptr _ _ b o z hb hU y h8 hr=>
     refine⟨_,.pointer (M ⟨b,o+(h4+k.toNat*sz),Q2⟩),rfl,?_,.eptr cs (h4+k.toNat*sz) b o z hb hU y h8 hr⟩;simp[Instr.indexAt,asIntOf,bN hu,h0,h1,du u,Addr.add_none,Instr.sureAddr,Nat.add_assoc]
    .simp at h
   .simp at h
  .simp at h
 .simp at h
end
section
variable {P:Program} {w:World} {U:Nat->Prop} {ρ:Nat->Option Value}
variable {k:IntKind}
theorem V5{n:Int}(h:Rk k n=O):dv k n:=by cases k<;>simp[Rk]at h<;>simp[dv,IntKind.min,IntKind.max,IntKind.signed,IntKind.bits]<;>omega
theorem SK(v:Value):Rv w U ρ (J0 v) v:=by
 unfold J0;split
 .exact .kb _
 .split
  next h=>exact .int _ _ (V5 h)
  .exact .any _
 .rename_i s;split
  .rename_i h;have:s=⟨s.data.toList.toArray⟩:=by cases s;simp
   have x:s.data.toList.length<=aD:=by unfold aD;omega
   have:=Rv.str (w:=w) (U:=U) (ρ:=ρ) s.data.toList x;simpa using this
  .exact .any _
 .exact .nils _
 .exact .nilp
 .exact .nilf
 .exact .ifcN
 .exact .any _
theorem zfe(v:Value):zvo v=v.oneCell':=by cases v<;>rfl
theorem sL(v:Value):Rv w U ρ (Ca v) v:=by
 unfold Ca;split
 .rename_i x;split
  .rename_i h;have:=Rv.agg (w:=w) (U:=U) (ρ:=ρ) (x.toList.map J0) x.toList sw (λv p=>by
    rw[<-zfe];exact eu.1 h v p) (λj c v q p=>by
    grind[SK])
   simpa using this
  .exact .any _
 .exact SK _
theorem nK(k:IntKind)(n:Int):dv k (k.wrap n):=by cases k<;>simp[dv,IntKind.min,IntKind.max,IntKind.signed,IntKind.bits,IntKind.wrap]<;>(try split)<;>omega
theorem Fk{c:Bool}{x y z:AV}{v:Value}(h:tp c x y=M z)(p:Rv w U ρ (ite c x y) v):Rv w U ρ z v:=by
  unfold tp at h;split at h
  all_goals first
    |(cases h;cases c<;>simp at p|-<;>cases p<;>first|exact .bool _|exact .str _ ‹_›)
    | (split at h
       · rename_i q;subst q;cases h;cases c<;>simp at p|-<;>exact p
       · cases h)
    |cases h
theorem Fy{t:TypeId}{u:List AV}{p:Nat}{r:AV}{s:List Value}(h:uP P t u p=M r)
  (hl:X u=X s) (z:∀v∈s,v.oneCell'=O) (hr:∀(j:Nat)(c:AV)(v:Value),u[j]?=M c->s[j]?=M v->Rv w U ρ c v):
  ∃x,(part t s.toArray p).run P w=.ok x w/\Rv w U ρ r x:=by
 unfold uP at h;split at h
 .rename_i n y hn;split at h
  .rename_i h0;cases h;refine⟨.agg (s.toArray.extract p (p+n)),by simp[part,kN y,du hn],?_⟩;have he:s.toArray.extract p (p+n)=((s.drop p).take n).toArray:=by
    apply kW;simp[List.extract_eq_take_drop]
   rw[he];refine .agg _ _ (by simp[hl]) (λv q=>z v (List.mem_of_mem_drop (List.mem_of_mem_take q))) (λj c v hc q=>?_);grind
  .cases h
 next y=>have h2:p<X u:=(dF.1 h).1;have q:s[p]?=M s[p]:=af ow;refine⟨s[p],?_,hr _ _ _ h q⟩;simp[part,kN y,q]
 .cases h
theorem zfP(s:zJ)(i:Nat)(h:i<X s):(⟨s.toArray⟩:ByteArray)[i]?=M (s.getD i 0):=by
 have x:i<(⟨s.toArray⟩:ByteArray).size:=by simpa[ByteArray.size]using h
 rw[getElem?_pos _ i x];simp[List.getD,af h];rfl
variable {f:gy}
theorem QV{t:TypeId}{x ai:AV}{v vi:Value}(h:(Kw P t x ai).val=M f)
  (u:Rv w U ρ x v) (hi:Rv w U ρ ai vi):∃r p,f={val:=r}/\(Instr.index t v vi).run P w=.ok p w/\Rv w U ρ r p:=by
 unfold Kw at h;split at h
 .rename_i ik k;cases hi;split at h
  .rename_i s hu;simp[nt]at h;obtain⟨⟨y,h1⟩,rfl⟩:=h;cases u with
   |str _ hs=>
   have z:k.toNat<X s:=by omega
   refine⟨_,.int .u8 (s.getD k.toNat 0).toNat,rfl,?_,?_⟩
   .simp[Instr.index,asIntOf,bN hu,y,zfP s _ z]
   .rw[bz];refine .int _ _ ?_;have:=(s[k.toNat]?.getD 0).toNat_lt;simp[dv,IntKind.min,IntKind.max,IntKind.signed,IntKind.bits];omega
  .rename_i h5 h4 cs hu;split at h
   .rename_i sz h3;split at h
    .rename_i r hp;simp[nt]at h;obtain⟨⟨y,h1⟩,rfl⟩:=h;cases u with
     |agg _ vs hl q hr=>
     have⟨p,u,h2⟩:=Fy (w:=w) (U:=U) (ρ:=ρ) hp hl q hr;exact⟨r,p,rfl,by simp[Instr.index,asIntOf,bN hu,y,h1,du h3,u],h2⟩
    .simp at h
   .simp at h
  .simp at h
 .simp at h
theorem I6(n:Nat)(x:n<=aD):dv .i64 (n:Int):=by unfold aD at x;simp[dv,IntKind.min,IntKind.max,IntKind.signed,IntKind.bits];omega
theorem L8{e:Sh}{l:List (Sem e)}{v:Value}(t:Rv w U ρ (.sl e l) v):∃a c,v=.slice a (X l) c/\X l<=aD/\X l<=c:=by
 cases t with
 |sl0 _ a c=>exact⟨a,c,rfl,sw,sw⟩
 |sl _ _ b o c p q s z y x u=>exact⟨_,_,rfl,s,q⟩
theorem GF(s:zJ):(⟨s.toArray⟩:ByteArray).size=X s:=by simp[ByteArray.size]
theorem Y3{hp:Nat->AO}{t:TypeId}{x:AV}{v:Value}{ty:TypeId}(h:(Y2 P hp t x).val=M f)(hx:Rv w U ρ x v)
  (h6:∀id∈x.ids,bv w U ρ id (hp id)):
  ∃r p,f={val:=r}/\(Builtin.len_ #[t] ty #[v]).run P w=.ok p w/\Rv w U ρ r p:=by
 unfold Y2 at h;split at h
 .rename_i y;split at h
  .rename_i s;simp at h;subst h;cases hx with
   |str _ hs=>exact⟨_,.int .i64 (X s),rfl,by simp[Builtin.len_,bN y,goInt,GF],.int _ _ (I6 _ hs)⟩
  .simp at h
 .rename_i e0 y;split at h
  .simp at h;subst h;cases hx;exact⟨_,_,rfl,by simp[Builtin.len_,bN y,goInt],.int _ _ (I6 0 sw)⟩
  next e l=>simp at h;subst h;obtain⟨a,c,rfl,hm,_⟩:=L8 hx;exact⟨_,_,rfl,by simp[Builtin.len_,bN y,goInt],.int _ _ (I6 _ hm)⟩
  .rename_i id;have z:=h6 id (by simp[AV.ids]);cases hx with
   |vec _ _ hv _=>
   split at h
   next e l q=>rw[q]at z;have⟨a,c',hr,hm,h3⟩:=z;rw[hr]at hv;cases hv;simp at h;subst h;exact⟨_,_,rfl,by simp[Builtin.len_,bN y,goInt],.int _ _ (I6 _ hm)⟩
   next e l q=>rw[q]at z;have⟨v',h7,h9⟩:=z;rw[hv]at h7;cases h7;obtain⟨a,c,rfl,hm,_⟩:=L8 h9;simp at h;subst h;exact⟨_,_,rfl,by simp[Builtin.len_,bN y,goInt],.int _ _ (I6 _ hm)⟩
   .simp at h
  .simp at h
 .rename_i kt et y;split at h
  .rename_i id;have z:=h6 id (by simp[AV.ids]);cases hx with
   |mp _ _ hv _=>
   split at h
   .rename_i u es q;rw[q]at z;have⟨r,h0,h8,h1,h2,h3,h4,h5⟩:=z;rw[h1]at hv;cases hv;simp at h;obtain⟨x0,rfl⟩:=h;have hl:h0.size=X es:=by have:=congrArg X h4;simpa using this
    exact⟨_,.int .i64 (X es),rfl,by simp[Builtin.len_,bN y,goInt,g9 h3,hl,Result.andThen],.int _ _ (I6 _ um)⟩
   .simp at h
  .simp at h
 .simp at h
variable {a b:Value}
theorem YZ{d:Nat}{t:TypeId}{x y:AV}{r:Bool}(h:eqT P t x y=M r)(q:Rv w U ρ x a)(s:Rv w U ρ y b):
  (Op.equalIn (d+1) t a b).run P w=.ok r w:=by
 unfold eqT at h;split at h
 .rename_i p;split at h
  next u=>subst u;cases h;cases q;cases s;exact run_equalIn_int w d t _ _ _ _ p
  .cases h
 next p=>cases h;cases q;cases s;rw[run_equalIn_string w d t _ _ p];simp
 all_goals first
  |(rename_i p;cases h;cases q;cases s;exact run_equalIn_bool w d t _ _ p)
  |cases h
theorem zen{t:TypeId}{x y:AV}{r:Bool}(h:eqT P t x y=M r):GR P t=M S:=by unfold eqT at h;split at h<;>simp_all[GR]
theorem Te{d:Nat}:∀(s:List Field)(i:Nat)(u y:List AV)(r:Bool)(p q:Array Value),Hi P s i u y=M r->
  (∀(j:Nat) c,u[j]?=M c->∃v,p[i+j]?=M v/\Rv w U ρ c v)->(∀(j:Nat) c,y[j]?=M c->∃v,q[i+j]?=M v/\Rv w U ρ c v)->
  (Op.eqFields (d+1) p q s).run P w=.ok r w
 | [],i,[],[],r,p,q,h,_,_=>by
  simp[Hi]at h;subst h;simp[Op.eqFields]
 | f :: s,i,a::u,b::y,r,p,q,h,hx,hy=>by
  simp only[Hi]at h;split at h
  .rename_i hc;simp at hc;have⟨hn,ho⟩:=hc;split at h
   .rename_i r1 s1 h1 h2;cases h;have⟨va,h4,h0⟩:=hx 0 a rfl;have⟨vb,h5,h3⟩:=hy 0 b rfl;have x:∀(vz:Array Value)(v:Value),vz[i+0]?=M v->(part f.type vz f.offset).run P w=.ok v w:=by
     intro vz v t;rw[ve]at t;simp[part,kN (zen h1),ho,t]
    have ih:=Te (d:=d) s (i+1) u y s1 p q h2 (λj c z=>by
      have⟨v,t,hr⟩:=hx (j+1) c z;grind)
     (λj c z=>by
      have⟨v,t,hr⟩:=hy (j+1) c z;grind)
    simp only[Op.eqFields,ne_eq,hn,not_false_eq_true,zj,dA,x p va h4,x q vb h5,qz,YZ h1 h0 h3,Sem.run_ite,Sem.run_pure,ih];cases r1<;>simp
   .cases h
  .cases h
 |[],_,_::_,_,_,_,_,h,_,_=>by simp[Hi]at h
 |[],_,[],_::_,_,_,_,h,_,_=>by simp[Hi]at h
 |_::_,_,[],_,_,_,_,h,_,_=>by simp[Hi]at h
 |_::_,_,_::_,[],_,_,_,h,_,_=>by simp[Hi]at h
theorem QP{t:TypeId}{x y:AV}{r:Bool}(h:eqA P t x y=M r)(ha:Rv w U ρ x a)(hb:Rv w U ρ y b)
  (h4:∀k n k' n',x=.int k n->y=.int k' n'->False) (h5:∀s s',x=.str s->y=.str s'->False):
  (Op.equal t a b).run P w=.ok r w/\(∀z p q,(eqGuard z t p q a b).run P w=.ok () w)/\((∃c d,a=.bool c/\b=.bool d)\/∃c d,a=.agg c/\b=.agg d):=by
 unfold eqA at h;split at h
 .rename_i a' b';cases ha with
  |agg _ vs hl h1 hr=>
  cases hb with
  |agg _ h0 h3 h7 h6=>
  split at h
  .rename_i fs hu;split at h
   .rename_i hc;simp at hc;have⟨hs,hg⟩:=hc;refine⟨?_,λz p q=>run_eqGuard_agg w z t p q _ _ hg,.inr ⟨_,_,rfl,rfl⟩⟩;have hf:P.fieldsOf t=fs:=by simp[Program.fieldsOf,hu]
    show(Op.equalIn (9999+1) t _ _).run P w=_;rw[run_equalIn_struct w 9999 t _ _ (by rw[hf];exact hu) hs,hf];refine Te (U:=U) (ρ:=ρ) (d:=9998) fs.toList 0 a' b' r _ _ h (λj c v=>?_) (λj c v=>?_)
    .have u:j<X vs:=by rw[<-hl];exact(dF.1 v).1
     exact⟨vs[j],by simp[af u],hr j c _ v (af u)⟩
    .have u:j<X h0:=by rw[<-h3];exact(dF.1 v).1
     exact⟨h0[j],by simp[af u],h6 j c _ v (af u)⟩
   .cases h
  .cases h
 .have h':=h;unfold eqT at h;split at h
  .exact zA (h4 _ _ _ _ rfl rfl) id
  .exact zA (h5 _ _ rfl rfl) id
  all_goals first
   |(cases h;have h2:=YZ (d:=9999) h' ha hb;cases ha;cases hb;exact⟨h2,λz p q=>by cases z<;>simp[eqGuard],.inl ⟨_,_,rfl,rfl⟩⟩)
   |cases h
theorem zdG{op:BinOp}{t:TypeId}{x y:AV}(p q:Operand)(h:(zlJ P op t x y).val=M f)(ha:Rv w U ρ x a)(hb:Rv w U ρ y b)
  (u:∀k n k' n',x=.int k n->y=.int k' n'->False) (v:∀s s',x=.str s->y=.str s'->False):
  ∃r z,f={val:=r}/\(do eqGuard op t p q a b;binOp op t a b:Go.Sem Value).run P w=.ok z w/\Rv w U ρ r z:=by
 unfold zlJ at h;split at h
 .split at h
  next r hr=>simp at h;subst h;have⟨h1,h2,h3⟩:=QP hr ha hb u v;refine⟨_,.bool r,rfl,?_,.bool r⟩;rw[dA,h2];rcases h3 with⟨c,d,rfl,rfl⟩|⟨c,d,rfl,rfl⟩<;>simp[binOp,h1]
  .simp at h
 .split at h
  next r hr=>simp at h;subst h;have⟨h1,h2,h3⟩:=QP hr ha hb u v;refine⟨_,.bool (!r),rfl,?_,.bool (!r)⟩;rw[dA,h2];rcases h3 with⟨c,d,rfl,rfl⟩|⟨c,d,rfl,rfl⟩<;>simp[binOp,h1]
  .simp at h
 .simp at h
theorem UF{a b:Int}(x:dv k a)(p:dv k b)(q:b≠0):k.wrap (a.tmod b)=a.tmod b:=by
 have s:=Int.tmod_lt_of_pos;have:(a.tmod b).natAbs<b.natAbs:=by
  rw[Int.natAbs_tmod];exact Nat.mod_lt _ ow
 have t:0<=a->0<=a.tmod b:=λh=>Int.tmod_nonneg b h
 cases k<;>simp[dv,IntKind.min,IntKind.max,IntKind.signed,IntKind.bits]at x p<;>simp[IntKind.wrap,IntKind.signed,IntKind.bits]<;>(try split)<;>omega
theorem zez{a:Int}(h:dv k a):dv k (a/2):=by have⟨x,p⟩:=h;cases k<;>(simp only[dv,IntKind.min,IntKind.max,IntKind.signed,IntKind.bits]at x p|-;simp at x p|-;omega)
theorem zdH{u:BinOp}{t:TypeId}{a b:Int}(p q:Operand)(h:(zlK u k a b).val=M f)(v:dv k a)(y:dv k b):
  ∃r z,f={val:=r}/\(do eqGuard u t p q (.int k a) (.int k b);binOp u t (.int k a) (.int k b):Go.Sem Value).run P w=.ok z w/\Rv w U ρ r z:=by
 have x:∀u,(eqGuard u t p q (.int k a) (.int k b)).run P w=.ok () w:=by intro u;cases u<;>simp[eqGuard]
 unfold zlK at h;split at h
 .simp at h;subst h;exact⟨_,_,rfl,by rw[dA,x];simp[binOp,Op.intArith],.int _ _ (nK _ _)⟩
 .simp at h;subst h;exact⟨_,_,rfl,by rw[dA,x];simp[binOp,Op.intArith],.int _ _ (nK _ _)⟩
 .simp at h;subst h;exact⟨_,_,rfl,by rw[dA,x];simp[binOp,Op.intArith],.int _ _ (nK _ _)⟩
 .simp at h;obtain⟨s,rfl⟩:=h;exact⟨_,_,rfl,by rw[dA,x];simp[binOp,Op.intDiv,s],.int _ _ (nK _ _)⟩
 .simp at h;obtain⟨s,rfl⟩:=h;refine⟨_,.int k (a.tmod b),rfl,by rw[dA,x];simp[binOp,Op.intDiv,s],?_⟩;rw[UF v y s];exact .int _ _ (by rw[<-UF v y s];exact nK _ _)
 .simp at h;obtain⟨s,rfl⟩:=h;subst s;refine⟨_,.int k (a/2),rfl,?_,.int _ _ (zez v)⟩;have hk:min 1 k.bits=1:=by cases k<;>rfl
  have hd:a.fdiv 2=a/2:=by rw[Int.fdiv_eq_ediv_of_nonneg];omega
  rw[dA,x];simp[binOp,Op.shift,hk,hd]
 .simp at h;subst h;exact⟨_,_,rfl,by rw[dA,x];simp[binOp,Op.intBits],.int _ _ (nK _ _)⟩
 all_goals first
  |(simp at h;subst h;exact⟨_,_,rfl,by rw[dA,x];simp[binOp,Op.intCmp],.bool _⟩)
  |simp at h
theorem Sj(a b:zJ):(⟨a.toArray⟩:ByteArray)++⟨b.toArray⟩=⟨(a++b).toArray⟩:=by apply ByteArray.ext;simp
theorem zdI{x:BinOp}{t:TypeId}{a b:zJ}(p q:Operand)(h:(zlL x a b).val=M f):
  ∃r z,f={val:=r}/\(do eqGuard x t p q (.string ⟨a.toArray⟩) (.string ⟨b.toArray⟩);binOp x t (.string ⟨a.toArray⟩) (.string ⟨b.toArray⟩):Go.Sem Value).run P w=.ok z w/\Rv w U ρ r z:=by
 have s:∀x,(eqGuard x t p q (.string ⟨a.toArray⟩) (.string ⟨b.toArray⟩)).run P w=.ok () w:=by intro x;cases x<;>simp[eqGuard]
 unfold zlL at h;split at h
 .simp at h;obtain⟨u,rfl⟩:=h;refine⟨_,.string ⟨(a++b).toArray⟩,rfl,?_,.str _ (by unfold aD;simp;omega)⟩;rw[dA,s];simp[binOp,Op.stringOp,GF,Sj];omega
 all_goals first
  |(simp at h;subst h;exact⟨_,_,rfl,by rw[dA,s];simp[binOp,Op.stringOp],.bool _⟩)
  |simp at h
theorem zfI{s:BinOp}{t:TypeId}{v:IntKind}{a b:Int}(p q:Operand)(h:(zod s k a b).val=M f)(u:dv k a):
  ∃r z,f={val:=r}/\(do eqGuard s t p q (.int k a) (.int v b);binOp s t (.int k a) (.int v b):Go.Sem Value).run P w=.ok z w/\Rv w U ρ r z:=by
 unfold zod at h;split at h
 .simp at h;obtain⟨y,rfl⟩:=h;refine⟨_,_,rfl,by simp[eqGuard,binOp,Op.shift,show¬b<0 by omega],.int _ _ ?_⟩;generalize min b.toNat k.bits=n;have x:(0:Int)<2^n:=Int.pow_pos (by decide);generalize(2:Int)^n=c at x;rw[Int.fdiv_eq_ediv_of_nonneg _ ow];have l1:min 0 a<=a/c:=by
   rcases Int.le_total 0 a with q|q
   .have:=Int.ediv_nonneg q (Int.le_of_lt x);omega
   .have h2:a*c<=a*1:=Int.mul_le_mul_of_nonpos_left q ow;have:=(Int.le_ediv_iff_mul_le x).2 (by simpa using h2);omega
  have l2:a/c<=max 0 a:=by
   rcases Int.le_total 0 a with q|q
   .have:=Int.ediv_le_self c q;omega
   .have:=Int.ediv_nonpos_of_nonpos_of_neg q x;omega
  have y:k.min<=0/\0<=k.max:=by cases k<;>decide
  exact⟨by have:=u.1;omega,by have:=u.2;omega⟩
 .simp at h
theorem zdF{op:BinOp}{t:TypeId}{x y:AV}(p q:Operand)(h:(zlI P op t x y).val=M f)(u:Rv w U ρ x a)(v:Rv w U ρ y b):
  ∃r z,f={val:=r}/\(do eqGuard op t p q a b;binOp op t a b:Go.Sem Value).run P w=.ok z w/\Rv w U ρ r z:=by
 unfold zlI at h;split at h
 .split at h
  .rename_i hk;subst hk;cases u with
   |int _ _ h1=>
   cases v with
   |int _ _ h2=>exact zdH p q h h1 h2
  .cases u with
   |int _ _ h1=>
   cases v with
   |int _ _ h2=>exact zfI p q h h1
 .cases u;cases v;exact zdI p q h
 next h0 h3=>exact zdG p q h u v (λk n k' n' e1 e2=>h0 k n k' n' e1 e2) (λs s' e1 e2=>h3 s s' e1 e2)
def qq(p:List Value)(x:Nat):List Value->List Value
 |[]=>p
 |v::r=>qq (p.set x v) (x+1) r
theorem ja:∀(r p:List Value)(x:Nat),(qq p x r).length=X p
 |[],_,_=>rfl
 |v::r,p,x=>by simp[qq,ja r]
theorem qL:∀(r p:List AV)(x:Nat),(setCells p x r).length=X p
 |[],_,_=>rfl
 |v::r,p,x=>by simp[setCells,qL r]
theorem Dl:∀(r:List AV)(t:List Value)(s:List AV)(u:List Value)(x:Nat),dn w U ρ s u->dn w U ρ r t->dn w U ρ (setCells s x r) (qq u x t)
 |[],[],s,u,x,h,_=>h
 |[],_::_,_,_,_,_,h=>by have:=h.len;simp at this
 |_::_,[],_,_,_,_,h=>by have:=h.len;simp at this
 | c::r,v::t,s,u,x,h,h'=>by
  refine Dl r t _ _ (x+1) ⟨by simp[h.len],λj y v' p q=>?_⟩ ⟨by have:=h'.len;simpa using this,λj y v' p q=>h'.rv (j+1) y v' p q⟩;rw[nf]at p q;by_cases hj:x=j
  .simp only[hj,zj]at p q;split at p
   next z=>rw[zf (by rw[<-h.len];exact z)]at q;cases p;cases q;exact h'.rv 0 _ _ rfl rfl
   .cases p
  .rw[zh hj]at p q;exact h.rv j y v' p q
theorem Gz:∀(q s:List Value)(p:Nat),(∀v∈s,v.oneCell'=O)->(∀v∈q,v.oneCell'=O)->∀v∈qq s p q,v.oneCell'=O
 |[],_,_,h,_=>h
 | v::q,s,p,h,h'=>Gz q _ _ (fun x t=>by
   grind) (λx t=>h' x (by simp[t]))
theorem EP(q:List Value):∀(l:List Value)(k:Nat)(x:Nat),(l.zipIdx k).foldl (λ(q:Array Value)(p:Value×Nat)=>q.setIfInBounds (x+p.2) p.1) q.toArray=(qq q (x+k) l).toArray
 |[],_,_=>rfl
 | v::l,k,x=>by
  simp only[List.zipIdx_cons,List.foldl_cons,qq];have:=EP (q.set (x+k) v) l (k+1) x;grind
theorem EI{q:Nat->Option (Nat×Nat)}:∀(p:List (Nat×AV))(x:List (Nat×Value))(cs:List AV)(s:List Value)(r:List AV),
  IQ q cs p=M r->dn w U ρ cs s->(∀v∈s,v.oneCell'=O)->p.map (·.1)=x.map (·.1)->dn w U ρ (p.map (·.2)) (x.map (·.2))->
  ∃vr,Instr.fill q s.toArray x=M vr/\dn w U ρ r vr.toList/\∀v∈vr.toList,v.oneCell'=O
 | [],[],cs,s,r,h,hr,h1,_,_=>by
  simp[IQ]at h;subst h;exact⟨s.toArray,by simp[Instr.fill],by simpa using hr,by simpa using h1⟩
 |[],_::_,_,_,_,_,_,_,h,_=>by simp at h
 |_::_,[],_,_,_,_,_,_,h,_=>by simp at h
 | (i,c)::p,(i',v)::x,cs,s,r,h,hr,h1,hi,hp=>by
  simp at hi;obtain⟨rfl,hi⟩:=hi;simp only[IQ]at h;split at h
  .rename_i z h5 h6 h3 h0;split at h
   .rename_i h4;have⟨h7,h8⟩:=h4;have⟨t,u⟩:=iN (w:=w) (U:=U) (ρ:=ρ) h0 (hp.rv 0 c v rfl rfl)
    have⟨vr,e1,e2,e3⟩:=EI p x _ (qq s z v.cells.toList) r h (Dl _ _ _ _ _ hr t) (Gz _ _ _ h1 u) hi
     ⟨by have:=hp.len;simpa using this,λj c' v' hc hv=>hp.rv (j+1) c' v' hc hv⟩
    refine⟨vr,?_,e2,e3⟩;have y:=t.len;simp only[Array.length_toList]at y;have h2:=hr.len;simp only[Instr.fill,h3];rw[zh sg];have:=EP s v.cells.toList 0 z;grind[Array.toList_zipIdx]
   .cases h
  .cases h
theorem FB:∀(x:List Field)(p:List (Nat×Nat)),xp P x=M p->(x.mapM λf=>do pure (f.offset,<-Go.sizeOf f.type):Go.Sem (List (Nat×Nat))).run P w=.ok p w
 |[],p,h=>by simp[xp]at h;subst h;simp
 | f::r,p,h=>by
  simp only[xp]at h;split at h
  next n l s q=>cases h;have:=FB r l q;simp_all[du]
  .cases h
theorem Vn{t:TypeId}{q:List (Nat×AV)}{vparts:List (Nat×Value)}{r:AV}(h:Qo P t q=M r)
  (hi:q.map (·.1)=vparts.map (·.1)) (hp:dn w U ρ (q.map (·.2)) (vparts.map (·.2))):
  ∃x,(Instr.build t vparts.toArray).run P w=.ok x w/\Rv w U ρ r x:=by
 have s:∀p,uX P t=M (.agg p)->∃z:Value,(zeroValue t).run P w=.ok z w/\dn w U ρ p z.cells.toList/\∀v∈z.cells.toList,v.oneCell'=O:=by
  intro p hz;unfold uX at hz;split at hz
  next i h1=>simp only[dW]at hz;have⟨z,y,h0⟩:=hz;have hr:=sL (w:=w) (U:=U) (ρ:=ρ) z;rw[h0]at hr;have:=iN (w:=w) (U:=U) (ρ:=ρ) (av:=.agg p) rfl hr;exact⟨z,by simp[zeroValue,typeInfo,h1,y],this.1,this.2⟩
  .cases hz
 unfold Qo at h;split at h
 .rename_i p fs hz hu;split at h
  .rename_i ps h4;simp only[dW]at h;obtain⟨r',h,rfl⟩:=h;have⟨z,y,h0,h2⟩:=s p hz;have⟨vr,e1,e2,e3⟩:=EI q vparts _ _ _ h h0 h2 hi hp;refine⟨.agg vr,?_,?_⟩
   .simp only[SO]at e1;have hm:=FB (w:=w) fs.toList ps h4;have u:(fs.mapM λf=>do pure (f.offset,<-Go.sizeOf f.type):Go.Sem (Array (Nat×Nat))).run P w=.ok ps.toArray w:=by
     rw[Array.mapM_eq_mapM_toList,Sem.run_map,hm];rfl
    have h3:Instr.fill (λx=>ps.toArray[x]?) z.cells vparts=M vr:=by simpa using e1
    simp only[Instr.build,dA,y,qz,bN hu,u,h3,Sem.run_pure]
   .have:=Rv.agg (w:=w) (U:=U) (ρ:=ρ) r' vr.toList e2.len e3 e2.rv;simpa using this
  .cases h
 .rename_i p h6 h5 hz hu;split at h
  .rename_i n hn;simp only[dW]at h;obtain⟨r',h,rfl⟩:=h;have⟨z,y,h0,h2⟩:=s p hz;have⟨vr,e1,e2,e3⟩:=EI q vparts _ _ _ h h0 h2 hi hp;refine⟨.agg vr,?_,?_⟩
   .simp only[SO]at e1;simp[Instr.build,y,bN hu,du hn,e1]
   .have:=Rv.agg (w:=w) (U:=U) (ρ:=ρ) r' vr.toList e2.len e3 e2.rv;simpa using this
  .cases h
 .cases h
end
end Cad
