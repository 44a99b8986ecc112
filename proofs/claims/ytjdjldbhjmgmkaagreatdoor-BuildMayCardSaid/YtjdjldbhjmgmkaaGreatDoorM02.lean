/- The abstract machine. -/
import Derived.WalkKit
import Derived.Deep.AppendSrc
namespace Cad
open Go
open List renaming length->Io,length->X
open Bool renaming false->Q4,true->Q3,false->S,true->O
open Option renaming none->Q2,some->Q1,some->M
open Decidable renaming decide->Q0
variable {α β:Type}
abbrev _root_.Prod.q{p:Type}(x:α×β×p):p:=x.2.2
abbrev _root_.Prod.t{p q s:Type}(x:α×β×p×q×s):s:=x.2.2.2.2
theorem _root_.And.q{a b c:Prop}(h:a/\b/\c):c:=h.2.2
theorem _root_.And.t{a b c d e:Prop}(h:a/\b/\c/\d/\e):e:=h.2.2.2.2
section
variable {A B C D E F G H N P U n o:Type} {a b c d e f g h i j k l m:Prop}
abbrev _root_.Prod.r(x:A×B×C×D):=x.2.2.2
theorem _root_.And.r(x:a/\b/\c/\d):d:=x.2.2.2
abbrev _root_.Prod.u(x:A×B×C×D×E×F):=x.2.2.2.2.2
theorem _root_.And.u(x:a/\b/\c/\d/\e/\f):f:=x.2.2.2.2.2
abbrev _root_.Prod.v(x:A×B×C×D×E×F×G):=x.2.2.2.2.2.2
theorem _root_.And.v(x:a/\b/\c/\d/\e/\f/\g):g:=x.2.2.2.2.2.2
abbrev _root_.Prod.w(x:A×B×C×D×E×F×G×H):=x.2.2.2.2.2.2.2
theorem _root_.And.w(x:a/\b/\c/\d/\e/\f/\g/\h):h:=x.2.2.2.2.2.2.2
abbrev _root_.Prod.x(x:A×B×C×D×E×F×G×H×N):=x.2.2.2.2.2.2.2.2
theorem _root_.And.x(x:a/\b/\c/\d/\e/\f/\g/\h/\i):i:=x.2.2.2.2.2.2.2.2
abbrev _root_.Prod.y(x:A×B×C×D×E×F×G×H×N×P):=x.2.2.2.2.2.2.2.2.2
theorem _root_.And.y(x:a/\b/\c/\d/\e/\f/\g/\h/\i/\j):j:=x.2.2.2.2.2.2.2.2.2
abbrev _root_.Prod.z(x:A×B×C×D×E×F×G×H×N×P×U):=x.2.2.2.2.2.2.2.2.2.2
theorem _root_.And.z(x:a/\b/\c/\d/\e/\f/\g/\h/\i/\j/\k):k:=x.2.2.2.2.2.2.2.2.2.2
abbrev _root_.Prod.s(x:A×B×C×D×E×F×G×H×N×P×U×n):=x.2.2.2.2.2.2.2.2.2.2.2
theorem _root_.And.s(x:a/\b/\c/\d/\e/\f/\g/\h/\i/\j/\k/\l):l:=x.2.2.2.2.2.2.2.2.2.2.2
abbrev _root_.Prod.p(x:A×B×C×D×E×F×G×H×N×P×U×n×o):=x.2.2.2.2.2.2.2.2.2.2.2.2
theorem _root_.And.p(x:a/\b/\c/\d/\e/\f/\g/\h/\i/\j/\k/\l/\m):m:=x.2.2.2.2.2.2.2.2.2.2.2.2
end
theorem ow{p:Prop}(h:p:=by omega):p:=h
theorem sw{p:Prop}(h:p:=by simp):p:=h
theorem sg{p:Prop}(h:p:=by simp;omega):p:=h
theorem kw{p:Prop}(h:p:=by kernel_rfl):p:=h
theorem LY{p:Prop}(h:p:=by rfl):p:=h
abbrev bl0:List UInt8:=[100,101,108,101,116,101]
abbrev bl1:List UInt8:=[100,114,111,112]
abbrev pp:List UInt8:=[103,114,111,117,112]
abbrev bl3:List UInt8:=[105,110,115,101,114,116]
abbrev gO:List UInt8:=[106,111,105,110]
abbrev pt:List UInt8:=[108,105,116]
abbrev ox:List UInt8:=[110,111,116]
abbrev qy:List UInt8:=[110,117,108,108]
abbrev wy:List UInt8:=[111,114]
abbrev bl9:List UInt8:=[114,101,97,100]
abbrev Kb:List UInt8:=[115,101,108,101,99,116]
abbrev P9:List UInt8:=[117,110,114,101,97,100]
abbrev Qj:List UInt8:=[117,110,119,114,105,116,101]
abbrev M9:List UInt8:=[117,112,100,97,116,101]
abbrev Qk:List UInt8:=[119,114,105,116,101]
abbrev Ca:List UInt8:=[32,40,32]
abbrev zl7:List UInt8:=[32,41,32]
abbrev jq:List UInt8:=[32,41]
abbrev zAL:List UInt8:=[32,44,32,75,69,89,32,40,32]
abbrev zl8:List UInt8:=[32,44,32,82,69,70,69,82,69,78,67,69,83,32,40,32]
abbrev zl9:List UInt8:=[32,44,32,85,78,73,81,85,69,32,40,32]
abbrev fM:List UInt8:=[32,44,32]
abbrev zma:List UInt8:=[32,61,32]
abbrev Ql:List UInt8:=[32,65,78,68,32]
abbrev Vo:List UInt8:=[32,66,89,32]
abbrev zdY:List UInt8:=[32,67,72,69,67,75,32,40,32]
abbrev md:List UInt8:=[32,70,82,79,77,32]
abbrev DK:List UInt8:=[32,73,83,32,78,85,76,76,41]
abbrev zmb:List UInt8:=[32,78,79,84,32,78,85,76,76]
abbrev Cb:List UInt8:=[32,79,78,32]
abbrev Qm:List UInt8:=[32,79,82,32]
abbrev zdZ:List UInt8:=[32,83,69,84,32]
abbrev Vp:List UInt8:=[32,83,85,77,32]
abbrev Qn:List UInt8:=[32,84,79,32]
abbrev zd0:List UInt8:=[32,86,65,76,85,69,83,32,40,32]
abbrev zd1:List UInt8:=[32,87,72,69,82,69,32]
abbrev pq:List UInt8:=[39,39]
abbrev zmc:List UInt8:=[40,41,44,61,60,43,45,42]
abbrev wv:List UInt8:=[40,78,79,84,32]
abbrev X4:List UInt8:=[65,78,68]
abbrev DL:List UInt8:=[66,79,79,76]
abbrev Hc:List UInt8:=[66,89]
abbrev Na:List UInt8:=[67,72,69,67,75,32,40,32]
abbrev jh:List UInt8:=[67,72,69,67,75]
abbrev Vq:List UInt8:=[67,79,80,89]
abbrev zd2:List UInt8:=[67,82,69,65,84,69,32,84,65,66,76,69,32]
abbrev zd3:List UInt8:=[67,82,69,65,84,69]
abbrev zd4:List UInt8:=[68,69,76,69,84,69,32,70,82,79,77,32]
abbrev zd5:List UInt8:=[68,69,76,69,84,69]
abbrev zd6:List UInt8:=[68,82,79,80,32,84,65,66,76,69,32]
abbrev zd7:List UInt8:=[68,82,79,80]
abbrev Kc:List UInt8:=[70,65,76,83,69]
abbrev ww:List UInt8:=[70,82,79,77]
abbrev zso:List UInt8:=[71,82,65,78,84,32,82,69,65,68,32,79,78,32]
abbrev zsp:List UInt8:=[71,82,65,78,84,32,87,82,73,84,69,32,79,78,32]
abbrev zmd:List UInt8:=[71,82,65,78,84,32]
abbrev zd8:List UInt8:=[71,82,65,78,84]
abbrev Vr:List UInt8:=[71,82,79,85,80]
abbrev X5:List UInt8:=[73,78,83,69,82,84,32,73,78,84,79,32]
abbrev zd9:List UInt8:=[73,78,83,69,82,84]
abbrev zea:List UInt8:=[73,78,84,79]
abbrev DM:List UInt8:=[73,78,84]
abbrev Vs:List UInt8:=[74,79,73,78]
abbrev zme:List UInt8:=[75,69,89,32,40,32]
abbrev X6:List UInt8:=[77,73,71,82,65,84,69,32,67,79,80,89,32]
abbrev zmf:List UInt8:=[77,73,71,82,65,84,69,32,71,82,79,85,80,32]
abbrev zmg:List UInt8:=[77,73,71,82,65,84,69,32,74,79,73,78,32]
abbrev X7:List UInt8:=[77,73,71,82,65,84,69,32]
abbrev zeb:List UInt8:=[77,73,71,82,65,84,69]
abbrev Hd:List UInt8:=[78,85,76,76]
abbrev He:List UInt8:=[79,78]
abbrev Vt:List UInt8:=[82,69,65,68]
abbrev zsq:List UInt8:=[82,69,70,69,82,69,78,67,69,83]
abbrev zsr:List UInt8:=[82,69,86,79,75,69,32,82,69,65,68,32,79,78,32]
abbrev zss:List UInt8:=[82,69,86,79,75,69,32,87,82,73,84,69,32,79,78,32]
abbrev zmh:List UInt8:=[82,69,86,79,75,69,32]
abbrev zec:List UInt8:=[82,69,86,79,75,69]
abbrev zed:List UInt8:=[83,69,76,69,67,84,32,42,32,70,82,79,77,32]
abbrev zee:List UInt8:=[83,69,76,69,67,84]
abbrev Hf:List UInt8:=[83,85,77]
abbrev zef:List UInt8:=[84,65,66,76,69]
abbrev DN:List UInt8:=[84,69,88,84]
abbrev Kd:List UInt8:=[84,82,85,69]
abbrev X8:List UInt8:=[85,80,68,65,84,69,32]
abbrev zeg:List UInt8:=[85,80,68,65,84,69]
abbrev zeh:List UInt8:=[86,65,76,85,69,83]
abbrev mQ:List UInt8:=[87,72,69,82,69]
abbrev ji:List UInt8:=[97,110,100]
abbrev fh:List UInt8:=[99,111,108]
abbrev dD:List UInt8:=[99,111,112,121]
abbrev Qo:List UInt8:=[99,114,101,97,116,101]
abbrev zK:=List UInt8
abbrev Dz:=@List.eq_nil_of_length_eq_zero
abbrev qJ:=@Array.getD_eq_getD_getElem?
abbrev mP:=@Array.getElem?_eq_some_iff
abbrev bx:=@List.getD_eq_getElem?_getD
abbrev pn:=@List.getElem?_append_right
abbrev uf:=@Array.getElem?_eq_getElem
abbrev kz:=@Classical.byContradiction
abbrev ij:=@List.drop_eq_getElem_cons
abbrev qK:=@List.getElem?_append_left
abbrev dC:=@List.getElem?_eq_some_iff
abbrev SO:=@List.mem_or_eq_of_mem_set
abbrev zV:=@Bool.eq_false_or_eq_true
abbrev af:=@List.getElem?_eq_getElem
abbrev gA:=@Option.bind_eq_some_iff
abbrev HP:=@List.drop_eq_nil_of_le
abbrev HQ:=@List.take_of_length_le
abbrev g8:=@MapKept.run_getObj_map
abbrev om:=@MapKept.run_setObj_map
abbrev dW:=@Option.map_eq_some_iff
abbrev Bk:=@World.frozen?_of_block
abbrev uy:=@Array.getElem?_modify
abbrev ra:=@Array.getElem?_toList
abbrev HR:=@List.contains_iff_mem
abbrev fe:=@List.getElem?_eq_none
abbrev SP:=@List.getElem?_toArray
abbrev SQ:=@Array.toArray_toList
abbrev DA:=@List.getElem?_set_ne
abbrev mX:=@List.mem_cons_of_mem
abbrev fZ:=@List.mem_of_getElem?
abbrev MZ:=@MapKept.run_checkKey
abbrev f5:=@Nat.mul_le_mul_right
abbrev HS:=@Nat.pow_le_pow_right
abbrev DB:=@List.getD_cons_succ
abbrev Bl:=@List.getElem?_range
abbrev fK:=@List.getElem_of_mem
abbrev M0:=@MapKept.run_findKey
abbrev dX:=@beq_eq_false_iff_ne
abbrev zC:=@Bool.false_eq_true
abbrev Bm:=@List.getElem?_drop
abbrev M1:=@List.getElem?_take
abbrev g9:=@List.length_append
abbrev uz:=@List.mem_cons_self
abbrev ff:=@List.mem_singleton
abbrev ia:=@Nat.lt_of_lt_of_le
abbrev dv:=@Option.isSome_some
abbrev uA:=@Bool.not_eq_true'
abbrev Bn:=@Function.comp_def
abbrev DC:=@Int.lt_trichotomy
abbrev aJ:=@Int.toNat_natCast
abbrev M2:=@List.append_assoc
abbrev oo:=@List.ext_getElem?
abbrev dK:=@List.getElem?_map
abbrev mY:=@List.getElem?_set
abbrev HT:=@Nat.succ_le_of_lt
abbrev bG:=@Option.some.injEq
abbrev qv:=@Result.andThen_ok
abbrev fL:=@bne_self_eq_false
abbrev ba:=@decide_eq_true_eq
abbrev lm:=@of_decide_eq_true
abbrev aP:=@Bool.and_eq_true
abbrev iY:=@Bool.not_eq_true
abbrev eK:=@IntKind.wrap_i64
abbrev ep:=@List.all_eq_true
abbrev ky:=@List.drop_length
abbrev bp:=@List.getElem_mem
abbrev fA:=@List.length_cons
abbrev rc:=@List.length_take
abbrev wl:=@List.mem_flatMap
abbrev gB:=@List.take_length
abbrev oq:=@MapKept.heap_set
abbrev HU:=@Nat.min_eq_right
abbrev bI:=@Option.getD_some
abbrev ot:=@Bool.eq_iff_iff
abbrev ou:=@Bool.or_eq_true
abbrev wm:=@Int.natCast_add
abbrev wn:=@List.append_nil
abbrev Bo:=@List.cons.injEq
abbrev cW:=@List.length_map
abbrev qw:=@List.length_nil
abbrev mZ:=@List.length_set
abbrev ib:=@List.map_append
abbrev cZ:=@List.mem_append
abbrev HV:=@List.nil_append
abbrev HW:=@Nat.min_eq_left
abbrev HX:=@Option.map_some
abbrev aC:=@decide_eq_false
abbrev dj:=@Bool.not_false
abbrev mc:=@Comes.of_steps
abbrev rg:=@List.mem_range
abbrev HY:=@Nat.mul_le_mul
abbrev zB:=@decide_eq_true
abbrev bM:=@run_underlying
abbrev ov:=@Bool.and_self
abbrev ce:=@Bool.not_true
abbrev eY:=@Bool.true_and
abbrev er:=@List.map_cons
abbrev bX:=@List.mem_cons
abbrev cN:=@Prod.mk.injEq
abbrev qx:=@List.map_map
abbrev rk:=@List.map_nil
abbrev aI:=@List.mem_map
abbrev kS:=@Nat.add_comm
abbrev ve:=@Nat.add_zero
abbrev be:=@Nat.le_trans
abbrev pm:=@Nat.pow_succ
abbrev jN:=@Nat.succ_mul
abbrev eV:=@Nat.zero_add
abbrev dz:=@Sem.run_bind
abbrev qZ:=@Nat.add_mul
abbrev zQ:=@Nat.le_refl
abbrev aK:=@Nat.zero_le
abbrev kT:=@Array.ext'
abbrev nJ:=@Nat.mod_lt
abbrev bW:=@beq_iff_eq
abbrev aL:=@cond_false
abbrev aN:=@cond_true
abbrev bQ:=@eq_of_beq
abbrev zf:=@if_pos
abbrev zh:=@if_neg
abbrev zj:=@if_true
abbrev zm:=@if_false
abbrev bh:=@Prod.eta
abbrev ef:=@decide_eq_false_iff_not
abbrev zz:=@absurd
inductive zg where
 |mk (op:zK) (v:Int×Int×zK) (s:zK) (l:List zg)
def zg.op:zg->zK
 |.mk o _ _ _=>o
def zg.v:zg->Int×Int×zK
 |.mk _ v _ _=>v
def zg.s:zg->zK
 |.mk _ _ s _=>s
def zg.l:zg->List zg
 |.mk _ _ _ l=>l
inductive Sh where
 |unit
 |bool
 |int (k:IntKind)
 |str
 |sl (e:Sh)
 |pr (a b:Sh)
 |expr
 deriving DecidableEq
@[reducible] def Sem:Sh->Type
 |.unit=>Unit
 |.bool=>Bool
 |.int _=>Int
 |.str=>zK
 |.sl e=>List (Sem e)
 |.pr a b=>Sem a×Sem b
 |.expr=>zg
def zi:(s:Sh)->Sem s
 |.unit=>()
 |.bool=>S
 |.int _=>(0:Int)
 |.str=>([]:zK)
 |.sl e=>([]:List (Sem e))
 |.pr a b=>(zi a,zi b)
 |.expr=>zg.mk [] (0,0,[]) [] []
def Sh.size:Sh->Nat
 |.unit=>0
 |.pr a b=>a.size+b.size
 |.expr=>6
 |_=>1
inductive AV where
 |any
 |kb (b:Bool)
 |bool (b:Bool)
 |int (k:IntKind) (n:Int)
 |str (s:zK)
 |nils
 |sl (e:Sh) (l:List (Sem e))
 |vec (id:Nat)
 |ptr (id off:Nat)
 |vptr (id sz i off:Nat)
 |eptr (cells:List AV) (off:Nat)
 |nilp
 |agg (cells:List AV)
 |tup (vs:List AV)
 |clo (fn:Fn) (first caps:List AV)
 |nilf
 |mp (id:Nat)
 |ifc (bD:Bool)
 |tab (k:IntKind) (zs:List Int)
 |gint
@[match_pattern] abbrev ai (n:Int):AV:=.int .i64 n
abbrev ny:AV:=.any
def zD:(s:Sh)->Sem s->List AV
 |.unit,_=>[]
 |.bool,b=>[.bool b]
 |.int k,n=>[.int k n]
 |.str,s=>[.str s]
 |.sl e,l=>[.sl e l]
 |.pr a b,x=>zD a x.1++zD b x.2
 |.expr,e=>[.str e.op,.int .i64 e.v.1,.int .i64 e.v.2.1,.str e.v.q,.str e.s,.sl .expr e.l]
inductive AO where
 |dead
 |box (cells:List AV)
 |vec (e:Sh) (l:List (Sem e))
 |frz (e:Sh) (l:List (Sem e))
 |fmap (es:List (zK×AV))
 |vmap (u:Bool) (es:List ((Int×Int×zK)×Int))
 |gmap (e:Sh) (es:List ((Int×Int×zK)×List (Sem e)))
inductive Tr (α:Type) where
 |err
 |chk (c:Bool) (t:Tr α)
 |br (c:Bool) (t f:Tr α)
 |ok (a:α)
def Tr.val:Tr α->Option α
 |.err=>Q2
 |.chk c t=>if c then t.val else Q2
 |.br c t f=>if c then t.val else f.val
 |.ok a=>M a
def Tr.bind:Tr α->(α->Tr β)->Tr β
 |.err,_=>.err
 |.chk c t,k=>.chk c (t.bind k)
 |.br c t f,k=>.br c (t.bind k) (f.bind k)
 |.ok a,k=>k a
structure gy where
 val:AV
 wr:List (Nat×AO):=[]
 nw:List AO:=[]
abbrev ah:=List AV->(Nat->AO)->Nat->Tr gy
structure ct where
 P:Program
 sh:TypeId->Option Sh
 gl:Nat->AV
 F:FuncId->Option ah
 own:Bool:=S
structure St where
 tmps:List AV
 heap:List AO
def St.hp(s:St)(id:Nat):AO:=s.heap.getD id .dead
def vj(p:Nat->AO)(e:Sh):AV->Option (List (Sem e))
 |.nils=>M []
 |.sl x l=>if h:x=e then M (h▸l)else Q2
 | .vec id=>match p id with
  |.vec x l=>if h:x=e then M (h▸l)else Q2
  |.frz x l=>if h:x=e then M (h▸l)else Q2
  |_=>Q2
 |_=>Q2
def w6(x:Nat->AO):List AV->Option (zg×List AV)
 | .str p::.int .i64 k::.int .i64 i::.str vs::.str s::c::r=>match vj x .expr c with
  |some l=>M (zg.mk p (k,i,vs) s l,r)
  |none=>Q2
 |_=>Q2
def dB(q:Nat->AO):(s:Sh)->List AV->Option (Sem s×List AV)
 |.unit,p=>M ((),p)
 |.bool,.bool b::r=>M (b,r)
 |.bool,.kb b::r=>M (b,r)
 |.int k,.int t n::r=>if t=k then M (n,r)else Q2
 |.str,.str s::r=>M (s,r)
 | .sl e,c::r=>match vj q e c with
  |some l=>M (l,r)
  |none=>Q2
 | .pr a b,p=>match dB q a p with
  | some (x,r)=>match dB q b r with
   |some (y,u)=>M ((x,y),u)
   |none=>Q2
  |none=>Q2
 |.expr,p=>w6 q p
 |_,_=>Q2
def cellsOf:AV->Option (List AV)
 |.any=>Q2
 |.tup _=>Q2
 |.agg x=>M x
 |v=>M [v]
def Sh.isAgg:Sh->Bool
 |.pr _ _|.expr|.unit=>O
 |_=>S
def AV.isAgg:AV->Bool
 |.agg _=>O
 |_=>S
def Bp(hp:Nat->AO)(s:Sh)(v:AV):Option (Sem s):=
 if s.isAgg==v.isAgg then match cellsOf v with
  | some p=>match dB hp s p with
   |some (x,[])=>M x
   |_=>Q2
  |none=>Q2
 else Q2
def zX(s:Sh)(x:Sem s):AV:=
 match s.isAgg with
 |true=>.agg (zD s x)
 |false=>(zD s x).headD .any
def Ri(k:IntKind)(n:Int):Bool:=match k with
 |.i8=>Q0 (-128<=n)&&Q0 (n<=127)
 |.i16=>Q0 (-32768<=n)&&Q0 (n<=32767)
 |.i32=>Q0 (-2147483648<=n)&&Q0 (n<=2147483647)
 |.i64=>Q0 (-9223372036854775808<=n)&&Q0 (n<=9223372036854775807)
 |.u8=>Q0 (0<=n)&&Q0 (n<=255)
 |.u16=>Q0 (0<=n)&&Q0 (n<=65535)
 |.u32=>Q0 (0<=n)&&Q0 (n<=4294967295)
 |.u64=>Q0 (0<=n)&&Q0 (n<=18446744073709551615)
def J0:Value->AV
 |.bool b=>.kb b
 |.int k n=>if Ri k n then .int k n else .any
 |.string s=>if s.data.toList.length<=1000000 then .str s.data.toList else .any
 |.slice Q2 0 0=>.nils
 |.pointer Q2=>.nilp
 |.nilFunc=>.nilf
 |.nilIface=>.ifc O
 |_=>.any
def zvV:Value->Bool
 |.agg _|.tuple _=>S
 |_=>O
def B9:Value->AV
 |.agg x=>if x.toList.all zvV then .agg (x.toList.map J0)else .any
 |v=>J0 v
def tj(c:Bool):AV->AV->Option AV
 |.bool a,.bool b=>M (.bool (cond c a b))
 |.bool a,.kb b=>M (.bool (cond c a b))
 |.kb a,.bool b=>M (.bool (cond c a b))
 |.kb a,.kb b=>M (.bool (cond c a b))
 |.int k a,.int x b=>if k=x then M (.int k (cond c a b))else Q2
 |.str a,.str b=>M (.str (cond c a b))
 |_,_=>Q2
def gM(P:Program)(t:TypeId):Option Nat:=(P.info? t).map (·.size)
def uW(P:Program)(t:TypeId):Option AV:=match P.info? t with
 |some i=>i.zero.map B9
 |none=>Q2
def GR(P:Program)(t:TypeId):Option Bool:=match P.underlying t with
 |some (.struct _)|some (.array _ _)=>M O
 |some _=>M S
 |none=>Q2
def zcj(P:Program)(t:TypeId):Option (List AV):=match P.info? t with
 | some i=>match i.zero with
  |some (.map Q2)=>M [.any]
  |some z=>cellsOf (B9 z)
  |none=>Q2
 |none=>Q2
def uO(P:Program)(t:TypeId)(p:List AV)(x:Nat):Option AV:=
 match GR P t,gM P t with
 |some O,M n=>if x+n<=X p then M (.agg ((p.drop x).take n))else Q2
 |some S,_=>p[x]?
 |_,_=>Q2
def setCells(p:List AV)(x:Nat):List AV->List AV
 |[]=>p
 |v::r=>setCells (p.set x v) (x+1) r
def ret(v:AV):Tr gy:=.ok {val:=v}
def Hu:Option AV->Tr gy
 |some v=>ret v
 |none=>.err
def CB(P:Program)(t:TypeId)(f:Nat):Option Field:=match P.underlying t with
 |some (.struct x)=>x[f]?
 |_=>Q2
def zL(n:Int)(x:Nat):Bool:=Q0 (0<=n)&&Q0 (n<x)
def dq:AV->List Nat
 |.vec id=>[id]
 |_=>[]
def EQ:AO->AO
 |.vec e l=>.frz e l
 |o=>o
def pL:AO->Bool
 |.vec _ _|.frz _ _=>O
 |_=>S
def im(p:Nat->AO)(x:List Nat):List (Nat×AO):=x.map λid=>(id,EQ (p id))
def eqT(P:Program)(t:TypeId)(x y:AV):Option Bool:=
 match P.underlying t,x,y with
 |some (.int _),.int k a,.int p b=>if k=p then M (a==b)else Q2
 |some .string,.str a,.str b=>M (a==b)
 |some .bool,.bool a,.bool b=>M (a==b)
 |some .bool,.bool a,.kb b=>M (a==b)
 |some .bool,.kb a,.bool b=>M (a==b)
 |some .bool,.kb a,.kb b=>M (a==b)
 |_,_,_=>Q2
def Hh(P:Program):List Field->Nat->List AV->List AV->Option Bool
 |[],_,[],[]=>M O
 | f::fs,i,a::xs,b::ys=>if f.name != "_" && f.offset==i then match eqT P f.type a b,Hh P fs (i+1) xs ys with
   |some r,M s=>M (r&&s)
   |_,_=>Q2
  else Q2
 |_,_,_,_=>Q2
def eqA(P:Program)(t:TypeId)(x y:AV):Option Bool:=
 match x,y with
 | .agg a,.agg b=>match P.underlying t with
  |some (.struct p)=>if !P.stoodInHeld t&&!P.eqGuardType P.depth t then Hh P p.toList 0 a b else Q2
  |_=>Q2
 |x,y=>eqT P t x y
def zl5(x:BinOp)(k:IntKind)(a b:Int):Tr gy:=
 match x with
 |.add=>ret (.int k (k.wrap (a+b)))
 |.sub=>ret (.int k (k.wrap (a-b)))
 |.mul=>ret (.int k (k.wrap (a*b)))
 |.quo=>.chk (b !=0) (ret (.int k (k.wrap (a.tdiv b))))
 |.rem=>.chk (b !=0) (ret (.int k (k.wrap (a.tmod b))))
 |.shr=>.chk (b==1) (ret (.int k (a/2)))
 |.and=>ret (.int k (k.wrap (BitVec.ofInt k.bits a &&& BitVec.ofInt k.bits b).toNat))
 |.eql=>ret (.bool (a==b))
 |.neq=>ret (.bool (a !=b))
 |.lss=>ret (.bool (Q0 (a<b)))
 |.leq=>ret (.bool (Q0 (a<=b)))
 |.gtr=>ret (.bool (Q0 (a>b)))
 |.geq=>ret (.bool (Q0 (a>=b)))
 |_=>.err
def zl6(x:BinOp)(a b:zK):Tr gy:=
 match x with
 |.add=>.chk (Q0 (X a+X b<=1099511627776)) (ret (.str (a++b)))
 |.eql=>ret (.bool (a==b))
 |.neq=>ret (.bool (!(a==b)))
 |.lss=>ret (.bool (Op.bytesLess a b))
 |.leq=>ret (.bool (Op.bytesLess a b||a==b))
 |.gtr=>ret (.bool (!(Op.bytesLess a b||a==b)))
 |.geq=>ret (.bool (!Op.bytesLess a b))
 |_=>.err
def zl4(P:Program)(p:BinOp)(t:TypeId)(x y:AV):Tr gy:=
 match p with
 | .eql=>match eqA P t x y with
  |some r=>ret (.bool r)
  |none=>.err
 | .neq=>match eqA P t x y with
  |some r=>ret (.bool (!r))
  |none=>.err
 |_=>.err
def zoy(x:BinOp)(k:IntKind)(a b:Int):Tr gy:=
 match x with
 |.shr=>.chk (Q0 (0<=b)) (ret (.int k (a.fdiv (2^min b.toNat k.bits))))
 |_=>.err
def zl3(P:Program)(p:BinOp)(t:TypeId)(x y:AV):Tr gy:=
 match x,y with
 |.int k a,.int q b=>if k=q then zl5 p k a b else zoy p k a b
 |.str a,.str b=>zl6 p a b
 |x,y=>zl4 P p t x y
def IS(p:Nat->Option (Nat×Nat))(x:List AV):List (Nat×AV)->Option (List AV)
 |[]=>M x
 | (i,v)::rest=>match p i,cellsOf v with
  |some (q,s),M t=>if X t=s/\q+X t<=X x then IS p (setCells x q t) rest else Q2
  |_,_=>Q2
def xp(P:Program):List Field->Option (List (Nat×Nat))
 |[]=>M []
 | f::r=>match gM P f.type,xp P r with
  |some n,M l=>M ((f.offset,n)::l)
  |_,_=>Q2
def Qp(P:Program)(t:TypeId)(p:List (Nat×AV)):Option AV:=
 match uW P t,P.underlying t with
 | some (.agg z),M (.struct q)=>
  match xp P q.toList with
  |some s=>(IS (λi=>s[i]?) z p).map .agg
  |none=>Q2
 | some (.agg z),M (.array _ x)=>match gM P x with
  |some n=>(IS (λi=>M (i*n,n)) z p).map .agg
  |none=>Q2
 |_,_=>Q2
def yO(hp:Nat->AO)(e:Sh):List AV->Option (List (Sem e))
 |[]=>M []
 | v::r=>match Bp hp e v,yO hp e r with
  |some x,M l=>M (x::l)
  |_,_=>Q2
def w7:Nat->List (Nat×AV)->Bool
 |_,[]=>O
 |n,(i,_)::r=>i==n&&w7 (n+1) r
def Kx(P:Program)(q:Nat->AO)(t:TypeId):AV->Tr gy
 | .ptr id x=>match q id with
  |.box p=>Hu (uO P t p x)
  |_=>.err
 |.eptr p x=>Hu (uO P t p x)
 | .vptr id sz i x=>match q id with
  |.vec e l=>if e.size=sz then .chk (Q0 (i<X l)) (Hu (uO P t (zD e (l.getD i (zi e))) x))else .err
  |_=>.err
 |_=>.err
def Ky(P:Program)(p:Nat->AO)(t:TypeId)(a x:AV):Tr gy:=
 match cellsOf x,gM P t with
 | some v,Q1 sz=>if Io v=sz then match a with
   | .ptr id off=>match p id with
    |.box q=>if off+sz<=X q then .ok {val:=.tup [],wr:=[(id,.box (setCells q off v))]}else .err
    |_=>.err
   | .vptr id sz' i off=>match p id with
    | .vec e l=>if e.size=sz'∧off+sz≤sz'∧(v.flatMap dq).all (fun j=>pL (p j)&&j != id) then match dB p e (setCells (zD e (l.getD i (zi e))) off v) with
      |some (x,[])=>.chk (Q0 (i<X l)) (.ok {val:=.tup [],wr:=(id,.vec e (l.set i x))::im p (v.flatMap dq)})
      |_=>.err
     else .err
    |_=>.err
   |_=>.err
  else .err
 |_,_=>.err
def Kv(P:Program)(t:TypeId)(f:Nat)(x:AV):Tr gy:=
 match CB P t f with
 | some q=>match gM P q.type with
  | some (_+1)=>match x with
   |.ptr id p=>ret (.ptr id (p+q.offset))
   |.eptr s p=>ret (.eptr s (p+q.offset))
   |.vptr id sz i p=>ret (.vptr id sz i (p+q.offset))
   |_=>.err
  |_=>.err
 |none=>.err
def Vk(k:Int)(f:Nat->AV):Nat->Nat->Tr gy
 |_,0=>.err
 |i,1=>ret (f i)
 |i,n+2=>.br (k==(i:Int)) (ret (f i)) (Vk k f (i+1) (n+1))
def ry(P:Program)(v:Nat->AO)(t:TypeId)(x i:AV):Tr gy:=
 match i with
 | .int _ k=>match P.underlying t with
  | some (.slice p)=>match x with
   |.sl e l=>if gM P p=M e.size then .chk (zL k (X l)) (ret (.eptr (zD e (l.getD k.toNat (zi e))) 0))else .err
   | .vec id=>match v id with
    |.vec e l=>if gM P p=M e.size then .chk (zL k (X l)) (ret (.vptr id e.size k.toNat 0))else .err
    |.frz e l=>if gM P p=M e.size then .chk (zL k (X l)) (ret (.eptr (zD e (l.getD k.toNat (zi e))) 0))else .err
    |_=>.err
   |_=>.err
  | some (.array q p)=>match gM P p with
   | some sz=>match x with
    |.ptr id s=>.chk (zL k q) (ret (.ptr id (s+k.toNat*sz)))
    |.eptr u s=>.chk (zL k q) (Vk k (λi=>.eptr u (s+i*sz)) 0 q)
    |_=>.err
   |none=>.err
  |_=>.err
 |_=>.err
def Kw(P:Program)(t:TypeId)(x i:AV):Tr gy:=
 match i with
 | .int _ k=>match P.underlying t,x with
  |some .string,.str s=>.chk (zL k (X s)) (ret (.int .u8 (s.getD k.toNat 0).toNat))
  | some (.array q p),.agg u=>match gM P p with
   | some sz=>match uO P p u (k.toNat * sz) with
    |some v=>.chk (zL k q) (ret v)
    |none=>.err
   |none=>.err
  |_,_=>.err
 |_=>.err
def eD(v:AV):List Nat:=match cellsOf v with
 |some x=>x.flatMap dq
 |none=>[]
def pC(E:ct)(u:Nat->AO)(t:TypeId)(q:Nat)(s:List (Nat×AV)):Tr gy:=
 match E.P.underlying t with
 | some (.slice x)=>match q with
  |0=>if s.isEmpty&&(gM E.P x).isSome then ret .nils else .err
  | _=>match E.sh x with
   | some e=>
    if X s=q&&w7 0 s&&Q0 (q*e.size<=100000)&&(s.flatMap λp=>eD p.2).all (λj=>pL (u j))then match yO u e (s.map (·.2))with
     |some l=>.ok {val:=.sl e l,wr:=im u (s.flatMap λp=>eD p.2)}
     |none=>.err
    else .err
   |none=>.err
 |_=>.err
def vD(E:ct)(u:Nat->AO)(n:Nat)(t:TypeId)(x:Nat)(s:List (Nat×AV)):Tr gy:=
 match E.P.underlying t with
 | some (.slice q)=>match E.sh q with
  | some e=>
   if X s=x&&w7 0 s&&Q0 (0<x)&&Q0 (x*e.size<=100000)&&(s.flatMap λp=>eD p.2).isEmpty then match yO u e (s.map (·.2))with
    |some l=>.ok {val:=.vec n,nw:=[.vec e l]}
    |none=>.err
   else .err
  |none=>.err
 |_=>.err
def rm:AV->Option Int
 |.int _ k=>M k
 |_=>Q2
def wP(P:Program)(t:TypeId)(x:AV)(u q v:Option AV):Tr gy:=
 match P.underlying t,x,v with
 | some .string,.str s,Q2=>
  match(match u with|none=>M 0|some a=>rm a),(match q with|none=>M (X s:Int)|some a=>rm a)with
  |some l,M h=>.chk (Q0 (0<=l)&&Q0 (l<=h)&&Q0 (h<=X s)) (ret (.str ((s.drop l.toNat).take (h.toNat-l.toNat))))
  |_,_=>.err
 | some (.slice p),.sl e s,Q2=>if gM P p=Q1 e.size then
   match(match u with|none=>M 0|some a=>rm a),(match q with|none=>M (X s:Int)|some a=>rm a)with
   |some l,M h=>.chk (Q0 (0<=l)&&Q0 (l<=h)&&Q0 (h<=X s)) (ret (.sl e ((s.drop l.toNat).take (h.toNat-l.toNat))))
   |_,_=>.err
  else .err
 | some (.slice p),.sl _ _,M (.int _ 0)=>match u,q with
  |none,M (.int _ 0)=>if(gM P p).isSome then ret .nils else .err
  |_,_=>.err
 | some (.slice p),.nils,M (.int _ 0)=>match u,q with
  |none,M (.int _ 0)=>if(gM P p).isSome then ret .nils else .err
  |_,_=>.err
 |_,_,_=>.err
def EE(P:Program)(hp:Nat->AO)(t:TypeId)(x:AV)(q p s:Option AV):Tr gy:=
 match x with
 | .vec id=>match hp id with
  |.vec e l=>(wP P t (.sl e l) q p s).bind λf=>.ok {val:=f.val,wr:=im hp [id]}
  |.frz e l=>wP P t (.sl e l) q p s
  |_=>.err
 |x=>wP P t x q p s
def Zc(P:Program)(q:Nat->AO)(t:TypeId)(x:AV):Tr gy:=
 match P.underlying t with
 | some .string=>match x with
  |.str s=>ret (.int .i64 (X s))
  |_=>.err
 | some (.slice _)=>match x with
  |.nils=>ret (.int .i64 0)
  |.sl _ l=>ret (.int .i64 (X l))
  | .vec id=>match q id with
   |.vec _ l=>ret (.int .i64 (X l))
   |.frz _ l=>ret (.int .i64 (X l))
   |_=>.err
  |_=>.err
 | some (.map _ _)=>match x with
  | .mp id=>match q id with
   |.vmap _ p=>.chk (Q0 (X p<=1073741824)) (ret (.int .i64 (X p)))
   |_=>.err
  |_=>.err
 |_=>.err
def oE(E:ct)(q:Nat->AO)(n:Nat)(p:TypeId)(b x:AV):Tr gy:=
 match E.sh p,b with
 | some e,.nils=>match vj q e x with
  |some l=>.chk (Q0 (X l<=1073741824)) (.ok {val:=.vec n,nw:=[.vec e l]})
  |none=>.err
 | some e,.vec id=>match q id with
  | .vec u t=>if h:u=e then match vj q e x with
    |some s=>.chk (Q0 (X t+X s<=1073741824)) (.ok {val:=.vec n,wr:=[(id,.dead)],nw:=[.vec e ((h▸t:List (Sem e))++s)]})
    |none=>.err
   else .err
  |_=>.err
 |_,_=>.err
def TD(x:List (zK×AV))(s:zK)(z:Tr gy):Tr gy:=match x with
 |[]=>z
 |(k,v)::r=>.br (s==k) (ret v) (TD r s z)
def KN(x:List (zK×AV))(s:zK)(z:Tr gy):Tr gy:=match x with
 |[]=>z
 |(k,v)::r=>.br (s==k) (ret (.tup [v,.kb O])) (KN r s z)
def Sx:AV->Option (Int×Int×zK)
 |.agg [.int .i64 a,.int .i64 b,.str s]=>M (a,b,s)
 |_=>Q2
def zoT:Bool->AV->Option Int
 |false,.int .i64 n=>M n
 |true,.agg []=>M 0
 |_,_=>Q2
def qo(x:List ((Int×Int×zK)×Int))(k:Int×Int×zK):Bool:=x.any λp=>k==p.1
def iw(x:List ((Int×Int×zK)×Int))(k:Int×Int×zK):Int:=((x.find? λp=>k==p.1).map (·.2)).getD 0
def lF(es:List ((Int×Int×zK)×Int))(k:Int×Int×zK)(x:Int):List ((Int×Int×zK)×Int):=match es with
 |[]=>[(k,x)]
 |p::r=>bif k==p.1 then(k,x)::r else p::lF r k x
def kQ(es:List ((Int×Int×zK)×Int))(k:Int×Int×zK):List ((Int×Int×zK)×Int):=bif qo es k then es else es++[(k,0)]
def mN(es:List ((Int×Int×zK)×Int))(k:Int×Int×zK):Nat:=match es with
 |[]=>0
 |p::r=>bif k==p.1 then 0 else mN r k+1
def ll(q:List ((Int×Int×zK)×Int))(n:Nat)(x:Int):List ((Int×Int×zK)×Int):=match q,n with
 |[],_=>[]
 |p::r,0=>(p.1,x)::r
 |p::r,n+1=>p::ll r n x
def KD(P:Program)(t:TypeId):Bool:=match P.underlying t with
 |some (.int _)=>O
 |_=>S
def Rk(P:Program)(t:TypeId):Bool:=match P.underlying t with
 |some .string=>O
 |_=>S
def ig(P:Program)(s:TypeId):Bool:=match P.underlying s with
 | some (.struct t) => !P.stoodInHeld s && !P.eqGuardType P.depth s&&(match t.toList with
  |[x,p,q]=>x.name !="_"&&x.offset==0&&KD P x.type&&(p.name !="_"&&p.offset==1&&KD P p.type)&&(q.name !="_"&&q.offset==2&&Rk P q.type)
  |_=>S)
 |_=>S
def zad(P:Program)(sh:TypeId->Option Sh)(t:TypeId):Option AO:=match P.underlying t with
 | some (.map x q)=>match P.underlying x with
  |some .string=>M (.fmap [])
  | _=>if ig P x then match P.underlying q with
    |some (.int .i64)=>M (.vmap S [])
    |some (.struct s)=>if s.size=0 then M (.vmap O [])else Q2
    |some (.slice p)=>(sh p).map λe=>.gmap e []
    |_=>Q2
   else Q2
 |_=>Q2
def wO(P:Program)(y:Nat->AO)(t:TypeId)(m k x:AV):Tr gy:=
 match P.underlying t with
 | some (.map z _)=>match P.underlying z with
  | some .string=>match m,k with
   | .mp id,.str s=>match y id with
    |.fmap q=>.chk (!(q.any λp=>p.1==s)) (.ok {val:=.tup [],wr:=[(id,.fmap (q++[(s,x)]))]})
    |_=>.err
   |_,_=>.err
  | some (.struct _)=>if ig P z then match m,Sx k with
    | .mp id,Q1 v=>match y id with
     | .vmap u q=>match zoT u x with
      |some n=>.ok {val:=.tup [],wr:=[(id,.vmap u (lF q v n))]}
      |none=>.err
     |_=>.err
    |_,_=>.err
   else .err
  |_=>.err
 |_=>.err
def wN(P:Program)(q:Nat->AO)(t:TypeId)(m k:AV):Tr gy:=
 match P.underlying t with
 | some (.map s p)=>if ig P s then match m,Sx k with
   | .mp id,Q1 v=>match q id with
    | .vmap S x=>match uW P p with
     |some (.int .i64 z)=>if z=0 then .chk (Q0 (X x<=1073741824)) (.ok {val:=.tup [.int .i64 (iw x v),.int .i64 (mN x v)],wr:=[(id,.vmap S (kQ x v))]})else .err
     |_=>.err
    |_=>.err
   |_,_=>.err
  else .err
 |_=>.err
def pD(q:Nat->AO)(m s x:AV):Tr gy:=
 match m,s,x with
 | .mp id,.int .i64 n,.int .i64 y=>match q id with
  |.vmap S p=>.chk (zL n (X p)) (.ok {val:=.tup [],wr:=[(id,.vmap S (ll p n.toNat y))]})
  |_=>.err
 |_,_,_=>.err
def zjD(P:Program)(x:TypeId):Tr gy:=match uW P x with
 |some z=>ret (.tup [z,.kb S])
 |none=>.err
def ly{e:Sh}(x:List ((Int×Int×zK)×List (Sem e)))(k:Int×Int×zK):List (Sem e):=match x with
 |[]=>[]
 |p::r=>bif k==p.1 then p.2 else ly r k
def mS{α:Type}(x:List ((Int×Int×zK)×α))(k:Int×Int×zK):List ((Int×Int×zK)×α):=match x with
 |[]=>[]
 |p::r=>bif k==p.1 then r else p::mS r k
def EC(P:Program)(p:Nat->AO)(t:TypeId)(m k:AV):Tr gy:=
 match P.underlying t with
 | some (.map q _)=>if ig P q then match m,Sx k with
   | .mp id,M v=>match p id with
    |.gmap e x=>.ok {val:=.tup [],wr:=[(id,.gmap e (mS x v))]}
    |_=>.err
   |_,_=>.err
  else .err
 |_=>.err
def mm(P:Program)(y:Nat->AO)(t:TypeId)(x i:AV)(two:Bool):Tr gy:=
 match P.underlying t with
 | some (.map kt q)=>match P.underlying kt with
  | some .string=>match x,i with
   | .mp id,.str s=>match y id with
    |.fmap p=>if two then KN p s (zjD P q)else TD p s (Hu (uW P q))
    |_=>.err
   |_,_=>.err
  | some (.struct _)=>if ig P kt then match x,Sx i with
    | .mp id,Q1 v=>match y id with
     | .vmap u p=>match uW P q with
      |some (.int .i64 z)=>if u=S/\z=0 then ret (ite two (.tup [.int .i64 (iw p v),.bool (qo p v)]) (.int .i64 (iw p v)))else .err
      |some (.agg cs)=>if u=O/\cs.isEmpty=O then ret (ite two (.tup [.agg [],.bool (qo p v)]) (.agg []))else .err
      |_=>.err
     | .gmap e p=>match uW P q with
      |some .nils=>if two=S then ret (.sl e (ly p v))else .err
      |_=>.err
     |_=>.err
    |_,_=>.err
   else .err
  |_=>.err
 |_=>.err
def Zb(E:ct)(q:Operand->AV)(s:Nat->AO)(n:Nat)(c:Call):Tr gy:=
 match c.callee with
 | .value f=>match q f with
  | .clo (.func k) first caps=>match E.F k with
   |some F=>F (first++c.args.toList.map q++caps) s n
   |none=>.err
  |_=>.err
 | .builtin .len=>match c.args.toList.map q,c.argTypes.toList with
  |[x],[t]=>Zc E.P s t x
  |_,_=>.err
 | .builtin .append=>match c.args.toList.map q,c.argTypes.toList with
  | [b,x],[t,u]=>match E.P.underlying t,E.P.underlying u with
   |some (.slice p),M (.slice _)=>oE E s n p b x
   |_,_=>.err
  |_,_=>.err
 | .builtin .delete=>match c.args.toList.map q,c.argTypes.toList with
  |[m,k],[t,_]=>EC E.P s t m k
  |_,_=>.err
 |_=>.err
def nK(l:List Int):zK:=l.map λn=>UInt8.ofNat n.toNat
def Kt(P:Program)(x:TypeId):AV->Tr gy
 | .sl (.int .u8) l=>match P.underlying x with
  |some (.int .u8)=>ret (.str (nK l))
  |_=>.err
 |_=>.err
def rz(E:ct)(q:Operand->AV)(v:Nat->AO)(n:Nat)(o:Oper):Tr gy:=
 match o.op with
 |.move x|.assign x=>ret (q x)
 | .pick c a b=>match q c with
  |.kb O=>ret (q a)
  |.kb S=>ret (q b)
  |.bool x=>Hu (tj x (q a) (q b))
  |_=>.err
 | .box _ x=>match cellsOf (q x) with
  |some z=>.ok {val:=.ptr n 0,nw:=[.box z]}
  |none=>.err
 | .alloc t=>match zcj E.P t with
  |some z=>.ok {val:=.ptr n 0,nw:=[.box z]}
  |none=>.err
 |.load t a=>Kx E.P v t (q a)
 |.store t a x=>Ky E.P v t (q a) (q x)
 |.fieldAddr t x f=>Kv E.P t f (q x)
 | .field t x f=>match CB E.P t f,q x with
  |some fd,.agg z=>Hu (uO E.P fd.type z fd.offset)
  |_,_=>.err
 |.indexAddr t x i=>ry E.P v t (q x) (q i)
 |.index t x i=>Kw E.P t (q x) (q i)
 |.build t u=>Hu (Qp E.P t (u.toList.map λp=>(p.1,q p.2)))
 | .buildSlice t h0 u=>match E.own with
  |true=>vD E v n t h0 (u.toList.map λp=>(p.1,q p.2))
  |false=>pC E v t h0 (u.toList.map λp=>(p.1,q p.2))
 |.binOp op t x y _=>zl3 E.P op t (q x) (q y)
 | .unOp .not _ x=>match q x with
  |.bool b=>ret (.bool (!b))
  |.kb b=>ret (.kb (!b))
  |_=>.err
 | .unOp .neg _ x=>match q x with
  |.int k a=>ret (.int k (k.wrap (0-a)))
  |_=>.err
 | .convert h2 h1 x=>match E.P.underlying h2,E.P.underlying h1,q x with
  |some _,M (.int k),.int _ a=>ret (.int k (k.wrap a))
  |some _,M .string,.str s=>ret (.str s)
  |some (.slice el),M .string,.sl e l=>Kt E.P el (.sl e l)
  |_,_,_=>.err
 |.slice t x lo hi mx=>EE E.P v t (q x) (lo.map q) (hi.map q) (mx.map q)
 | .extract x i=>match q x with
  |.tup vs=>Hu vs[i]?
  |_=>.err
 |.makeFunc fn first caps=>ret (.clo fn (first.toList.map q) (caps.toList.map q))
 | .nilCheck x=>match q x with
  |.ptr a b=>ret (.ptr a b)
  |.eptr a b=>ret (.eptr a b)
  |.vptr a b c d=>ret (.vptr a b c d)
  |.clo (.func f) a b=>ret (.clo (.func f) a b)
  |_=>.err
 |.call c=>Zb E q v n c
 | .makeMap t Q2=>match zad E.P E.sh t with
  |some o=>.ok {val:=.mp n,nw:=[o]}
  |none=>.err
 |.insert t m k x=>wO E.P v t (q m) (q k) (q x)
 |.mapUpdate t m k x=>wO E.P v t (q m) (q k) (q x)
 |.lookup t x i two=>mm E.P v t (q x) (q i) two
 |.mapEntry t m k=>wN E.P v t (q m) (q k)
 |.entryStore _ m s x=>pD v (q m) (q s) (q x)
 |_=>.err
mutual
def AV.ids:AV->List Nat
 |.vec id|.ptr id _|.vptr id _ _ _|.mp id=>[id]
 |.eptr x _|.agg x|.tup x=>AV.idsL x
 |.clo _ a b=>AV.idsL a++AV.idsL b
 |_=>[]
def AV.idsL:List AV->List Nat
 |[]=>[]
 |v::r=>v.ids++AV.idsL r
end
mutual
def AV.ren(f:Nat->Nat):AV->AV
 |.vec id=>.vec (f id)
 |.ptr id o=>.ptr (f id) o
 |.vptr id sz i o=>.vptr (f id) sz i o
 |.mp id=>.mp (f id)
 |.eptr x o=>.eptr (AV.renL f x) o
 |.agg x=>.agg (AV.renL f x)
 |.tup x=>.tup (AV.renL f x)
 |.clo g a b=>.clo g (AV.renL f a) (AV.renL f b)
 |v=>v
def AV.renL(f:Nat->Nat):List AV->List AV
 |[]=>[]
 |v::r=>v.ren f::AV.renL f r
end
def AO.ids:AO->List Nat
 |.box x=>AV.idsL x
 |.fmap p=>AV.idsL (p.map (·.2))
 |_=>[]
def AO.ren(f:Nat->Nat):AO->AO
 |.box x=>.box (AV.renL f x)
 |.fmap q=>.fmap (q.map λp=>(p.1,p.2.ren f))
 |o=>o
def lx(x:Nat->AO):Nat->List Nat->List Nat->List Nat
 |0,_,s=>s
 |_+1,[],s=>s
 |n+1,i::r,s=>if s.contains i then lx x n r s else lx x n (r++(x i).ids) (s++[i])
def jv:Op->Bool
 |.load ..|.store ..|.indexAddr ..|.buildSlice ..|.slice ..|.call _|.insert ..|.mapUpdate ..|.lookup ..|.mapEntry ..|.entryStore ..=>O
 |_=>S
def vq:Op->Bool
 |.call _=>O
 |_=>S
def wT(p:Nat->AO)(x:Operand->AV)(o:Oper):List Nat:=
 if vq o.op then lx p 400 (AV.idsL (o.op.operands.toList.map x)) []else if jv o.op then AV.idsL (o.op.operands.toList.map x)else[]
def NU(p:Nat->AO)(x:Operand->AV)(o:Oper):Bool:=
 !jv o.op||(AV.idsL (o.op.operands.toList.map x)).all (λi=>(wT p x o).contains i)&&(!vq o.op||(wT p x o).all (λi=>(p i).ids.all λj=>(wT p x o).contains j))
structure HO where
 fp:List Nat:=[]
 wr:List Nat:=[]
 base:Nat:=0
 nw:Nat:=0
structure RS where
 tmps:List AV
 heap:List AO
 known:List (Nat×Bool):=[]
 touched:Bool:=S
 log:List HO:=[]
def RS.hp(s:RS)(id:Nat):AO:=s.heap.getD id .dead
def yD(E:ct)(tmps:List AV)(known:List (Nat×Bool)):Operand->AV
 | .tmp t=>match known.lookup t with
  |some b=>.kb b
  |none=>tmps.getD t .any
 |.const v=>B9 v
 |.global g=>E.gl g
 |.func f=>.clo (.func f) [] []
def pj(h:List AO):List (Nat×AO)->List AO
 |[]=>h
 |(i,o)::r=>pj (h.set i o) r
def mT(tmps:List AV)(x:Option Tmp)(v:AV):List AV:=match x with
 |some d=>tmps.set d v
 |none=>tmps
def vG(known:List (Nat×Bool))(x:Option Tmp):List (Nat×Bool):=match x with
 |some d=>known.filter λp=>p.1!=d
 |none=>known
def Hm(E:ct)(o:Oper)(s:RS):Tr RS:=
  if NU s.hp (yD E s.tmps s.known) o then
  (rz E (yD E s.tmps s.known) s.hp s.heap.length o).bind λf=>
    if f.wr.all (λp=>p.1<s.heap.length&&(wT s.hp (yD E s.tmps s.known) o).contains p.1)then
    .ok {tmps:=mT s.tmps o.dst f.val,heap:=pj s.heap f.wr++f.nw,known:=vG s.known o.dst,
          touched:=s.touched||!(f.wr.isEmpty&&f.nw.isEmpty),
          log:=s.log++[{fp:=wT s.hp (yD E s.tmps s.known) o,wr:=f.wr.map (·.1),base:=s.heap.length,nw:=f.nw.length}]}
    else .err
  else .err
def nU(o:Oper)(s:RS):RS:=
 {s with tmps:=mT s.tmps o.dst (.tup []),known:=vG s.known o.dst,log:=s.log++[{}]}
def vZ(E:ct)(p:List Oper)(s:RS)(o:Oper):Tr RS:=
 match o.guard with
 |none=>Hm E o s
 | some (j,x)=>match (p[j]?).bind (·.dst) with
  |none=>.ok (nU o s)
  | some d=>match yD E s.tmps s.known (.tmp d) with
   |.kb b=>if b==x then Hm E o s else .ok (nU o s)
   |.tup _=>.ok (nU o s)
   | .bool b=>
    let y:RS:={s with known:=(d,O)::s.known}
    let q:RS:={s with known:=(d,S)::s.known}
    .br b (ite x (Hm E o y) (.ok (nU o y))) (ite x (.ok (nU o q)) (Hm E o q))
   |_=>.err
def cm(E:ct)(ops:List Oper):List Oper->RS->Tr RS
 |[],s=>.ok s
 |o::r,s=>(vZ E ops s o).bind (cm E ops r)
def VD(x:List Oper):List Nat:=x.filterMap (·.dst)
def eb(c:Bool):List Nat->List AV->List AV->List AV->List AV
 |[],p,_,_=>p
 |d::r,p,t,f=>eb c r (p.set d ((tj c (t.getD d .any) (f.getD d .any)).getD .any)) t f
def zei:AV->AV->Bool
 |.clo (.func a) _ _,.clo (.func b) _ _=>a !=b
 |.clo _ _ _,.nilf=>O
 |.nilf,.clo _ _ _=>O
 |_,_=>S
def wC(x:List Nat)(l p:List AV):Bool:=x.any λd=>zei (l.getD d .any) (p.getD d .any)
def Cf(x:List Nat)(p:List AV):Tr RS->Option (Option Bool×List AV)
 |.err=>Q2
 |.ok s=>if s.touched then Q2 else M (Q2,s.tmps)
 | .chk c t=>match Cf x p t with
  |some (Q2,l)=>M (M c,l)
  |some (M u,l)=>M (M (c&&u),l)
  |none=>Q2
 | .br c t f=>match Cf x p t,Cf x p f with
  |some (Q2,l),M (Q2,q)=>if wC x l q then Q2 else M (Q2,eb c x p l q)
  |some (M a,l),M (Q2,q)=>if wC x l q then Q2 else M (M (cond c a O),eb c x p l q)
  |some (Q2,l),M (M b,q)=>if wC x l q then Q2 else M (M (cond c O b),eb c x p l q)
  |some (M a,l),M (M b,q)=>if wC x l q then Q2 else M (M (cond c a b),eb c x p l q)
  |_,_=>Q2
def ztQ{α:Type}:Tr α->Bool
 |.br ..=>O
 |.chk _ t=>ztQ t
 |_=>S
def zdI:List Oper->List (List Nat)->List (List Nat)
 |[],x=>x
 |o::r,x=>zdI r (x++[o.after.toList.flatMap λe=>if Region.binds .any e then e.on::x.getD e.on []else[]])
def fH(x:List Oper)(o:Oper):List Nat:=
  (o.op.operands.toList.filterMap λ|.tmp t=>M t|_=>Q2)++
  (match o.guard with
   |some (j,_)=>((x[j]?).bind (·.dst)).toList
   |none=>[])
def ju(a b:List Nat):Bool:=a.any λx=>b.contains x
def ie(r:HO)(x:Nat):Bool:=Q0 (r.base<=x)&&Q0 (x<r.base+r.nw)
def wB(x:List Oper)(p q:Oper)(ri rj:HO):Bool:=
 ju p.dst.toList (fH x q)||ju p.dst.toList q.dst.toList||ju (fH x p) q.dst.toList||
 ju ri.wr rj.fp||ju ri.fp rj.wr||rj.fp.any (ie ri)||ri.fp.any (ie rj)
def ec(r:HO)(id:Nat):Bool:=r.wr.contains id||ie r id
def zbN(x:List Oper)(s:List HO)(v:List (List Nat))(i j:Nat)(p q:Oper)(t u:HO):Bool:=
 match p.op,q.op,t.fp,u.wr with
 | .lookup _ _ _ Q4,.mapEntry _ _ _,[a],[b]=>b==a&&t.wr.isEmpty&&t.nw==0&&u.nw==0&&
  !(ju p.dst.toList (fH x q)||ju p.dst.toList q.dst.toList||ju (fH x p) q.dst.toList)&&
  (List.range (X x)).all λl=>match s[l]? with
   |some y=>!ec y a||Q0 (l<i)||l==j||(Q0 (j<l)&&(v.getD l []).contains i)
   |none=>S
 |_,_,_,_=>S
def xk(x:List Oper)(q:List HO):Bool:=
 let s:=zdI x []
 (x.zipIdx.all λp=>p.1.after.toList.all λe=>!Region.binds .any e||Q0 (e.on<p.2))&&
 (List.range (X x)).all λj=>(List.range j).all λi=>
  match x[i]?,x[j]?,q[i]?,q[j]? with
  |some t,M u,M v,M y=>!wB x t u v y||(s.getD j []).contains i||zbN x q s i j t u v y
  |_,_,_,_=>S
def checked(x:List Oper):Tr RS->Tr RS
 |.err=>.err
 |.chk c t=>.chk c (checked x t)
 |.br c t f=>.br c (checked x t) (checked x f)
 |.ok s=>if xk x s.log then .ok s else .err
def RS.out(s:RS):St:={tmps:=s.tmps,heap:=s.heap}
def jW(E:ct)(ops:List Oper)(draw:Bool)(x:St):Tr St:=
 let t0:=cm E ops ops {tmps:=x.tmps,heap:=x.heap}
 let t:=if draw then checked ops t0 else t0
 if ztQ t then match Cf (VD ops) x.tmps t with
  |some (Q2,l)=>.ok {x with tmps:=l}
  |some (M c,l)=>.chk c (.ok {x with tmps:=l})
  |none=>t.bind λs=>.ok s.out
 else t.bind λs=>.ok s.out
inductive zT where
 |head (key:Nat) (k:List Item) (st:St)
 |ret (v:AV) (heap:List AO)
 |fork (c:Bool) (k1 k2:List Item) (st:St)
def KT:Code->Code->Option (Nat×Nat×Nat×TypeId×Code×Code)
 | .region _ ops Q4,.cond (.tmp d') a b=>match ops.toList with
  | [o1,o2]=>match o1.dst,o1.op,o1.guard,o2.dst,o2.op,o2.guard with
   |some x,.move (.tmp s),Q2,M d,.binOp .eql t (.tmp p) (.const (.slice Q2 0 0)) _,Q2=>if p=x/\d'=d/\x≠d then M (s,x,d,t,a,b)else Q2
   |_,_,_,_,_,_=>Q2
  |_=>Q2
 |_,_=>Q2
def Kk(x:Nat->AO):AV->Option Bool
 |.nils=>M O
 |.sl _ l=>M l.isEmpty
 | .vec id=>match x id with
  |.vec _ l=>M l.isEmpty
  |.frz _ l=>M l.isEmpty
  |_=>Q2
 |_=>Q2
def Rj(P:Program)(t:TypeId):Bool:=match P.underlying t with
 |some (.slice _)=>O
 |_=>S
def Ht(keep:List Nat):Nat->List AV->List AV
 |_,[]=>[]
 |i,v::r=>(ite (keep.contains i) v (.any))::Ht keep (i+1) r
def xr(x:St):Nat×Option Nat×Sh->St
 | (s,Q2,e)=>match x.tmps.getD s .any with
  |.nils=>{tmps:=x.tmps.set s (.vec x.heap.length),heap:=x.heap++[.vec e []]}
  |_=>x
 | (s,some c,e)=>match x.tmps.getD s .any with
  | .ptr id 0=>match x.hp id with
   | .box p=>match p.getD c .any with
    |.nils=>{tmps:=x.tmps,heap:=x.heap.set id (.box (p.set c (.vec x.heap.length)))++[.vec e []]}
    |_=>x
   |_=>x
  |_=>x
def JF(x:St):Nat×Nat->St
 | (s,c)=>match x.tmps.getD s .any with
  | .ptr id 0=>match x.hp id with
   | .box p=>match p.getD c .any with
    | .vec k=>match EQ (x.hp k) with
     |.frz e l=>{tmps:=x.tmps,heap:=(x.heap.set k (.frz e l)).set id (.box (p.set c (.sl e l)))}
     |_=>x
    |_=>x
   |_=>x
  |_=>x
structure aY where
 slots:List Nat:=[]
 prom:List (Nat×Option Nat×Sh):=[]
 unroll:Bool:=S
 sett:List (Nat×Nat):=[]
 cut:Bool:=S
def TI:List Nat->Bool
 |[]=>O
 |i::r=>!r.contains i&&TI r
def lG(hp:Nat->AO)(n0:Nat)(p x:List Nat):Bool:=
 p.all (λi=>x.contains i)&&x.all (λi=>(hp i).ids.all λj=>x.contains j)&&TI x&&x.take n0==List.range n0
def zjv(n0:Nat)(s:St):Option St:=
 let x:=lx s.hp 400 (List.range n0++AV.idsL s.tmps) []
 if lG s.hp n0 (AV.idsL s.tmps) x then
  M {tmps:=AV.renL (λi=>x.idxOf i) s.tmps,heap:=x.map λi=>(s.hp i).ren λi=>x.idxOf i}
 else Q2
def znT(n0:Nat)(k:aY)(s:St):Option St:=
 zjv n0 (k.prom.foldl xr {s with tmps:=Ht k.slots 0 s.tmps})
def mr(n0:Nat)(k:aY)(x:Nat)(t:List Item)(p:St):Tr zT:=
 match znT n0 k p with
 |some s=>.ok (.head x t s)
 |none=>.err
def fj:Code->Nat
 |.region id _ _=>id
 |.seq a _=>fj a
 |.block _ c=>fj c
 |.loop c=>fj c
 |.scope c=>fj c
 |_=>0
def LQ(E:ct)(s:St):ResultVar->Option AV
 |.tmp t=>M (s.tmps.getD t .any)
 | .cell a t=>match s.tmps.getD a .any with
  | .ptr id off=>match s.hp id with
   |.box x=>uO E.P t x off
   |_=>Q2
  |_=>Q2
def xU(E:ct)(s:St):List ResultVar->Option (List AV)
 |[]=>M []
 | r::rs=>match LQ E s r,xU E s rs with
  |some v,M x=>M (v::x)
  |_,_=>Q2
def K0:List AV->AV
 |[v]=>v
 |vs=>.tup vs
def xT(E:ct)(n0:Nat)(p:List ResultVar)(s:St):Tr zT:=
 match xU E s p with
 | some q=>
  let v:AV:=K0 q
  let x:=lx s.hp 400 (List.range n0++v.ids) []
  if lG s.hp n0 v.ids x then .ok (.ret (v.ren λi=>x.idxOf i) (x.map λi=>(s.hp i).ren λi=>x.idxOf i))else .err
 |none=>.err
def Cx(s:St)(c:Operand)(b:Bool):St:=match c with
 |.tmp t=>{s with tmps:=s.tmps.set t (.kb b)}
 |_=>s
def run(E:ct)(n0:Nat)(keep:Nat->aY)(q:List ResultVar):Nat->List Item->St->Tr zT
 |0,_,_=>.err
 | n + 1,v,p=>match v with
  |[]=>xT E n0 q ((keep 1000000).sett.foldl JF ((keep 1000000).prom.foldl xr p))
  |.inBlock _::k=>run E n0 keep q n k p
  |.inLoop c::k=>if(keep (fj c)).unroll then run E n0 keep q n (.code c::.inLoop c::k) p else mr n0 (keep (fj c)) (fj c) (.code c::.inLoop c::k) p
  | .code c::k=>match c with
   |.skip=>run E n0 keep q n k p
   |.label _=>run E n0 keep q n k p
   | .seq a b=>match KT a b with
    | some (s,x,d,t,z,y)=>match Kk p.hp (p.tmps.getD s .any) with
     |some c=>if Rj E.P t&&(Q0 (d<p.tmps.length)&&Q0 (x<p.tmps.length))then .ok (.fork c (.code z::k) (.code y::k) {p with tmps:=(p.tmps.set x (p.tmps.getD s .any)).set d .any})else .err
     |none=>.err
    |none=>run E n0 keep q n (.code a::.code b::k) p
   | .cond c a b=>match yD E p.tmps [] c with
    |.kb O=>run E n0 keep q n (.code a::k) p
    |.kb S=>run E n0 keep q n (.code b::k) p
    |.bool x=>.br x (run E n0 keep q n (.code a::k) (Cx p c O)) (run E n0 keep q n (.code b::k) (Cx p c S))
    |_=>.err
   |.block id c=>run E n0 keep q n (.code c::.inBlock id::k) p
   |.loop c=>if(keep (fj c)).unroll then run E n0 keep q n (.code c::.inLoop c::k) p else mr n0 (keep (fj c)) (fj c) (.code c::.inLoop c::k) p
   | .exit id=>match exitTo id k with
    |some k'=>run E n0 keep q n k' p
    |none=>.err
   |.ret=>xT E n0 q ((keep 1000000).sett.foldl JF ((keep 1000000).prom.foldl xr p))
   |.region id ops draw=>(jW E ops.toList draw p).bind λu=>if(keep (id+500000)).cut then mr n0 (keep (id+500000)) (id+500000) k u else run E n0 keep q n k u
   |_=>.err
  |_=>.err
def bl(n:Nat)(x:List AV)(heap:List AO):St:={tmps:=x++List.replicate (n-X x) (.tup []),heap}
def tm(n:Nat)(l:List (Nat×AV)):List AV:=l.foldl (λa p=>a.set p.1 p.2) (List.replicate n .any)
open Tr (chk br)
open AV (nils agg tup ptr kb str sl)
def du(k:IntKind)(n:Int):Prop:=k.min<=n/\n<=k.max
def aE:Nat:=9223372036854775807
theorem um{p:Prop}(h:p:=by unfold aE;omega):p:=h
inductive Rv (w:World) (U:Nat->Prop) (ρ:Nat->Option Value):AV->Value->Prop
 |any (v:Value):Rv w U ρ .any v
 |kb (b:Bool):Rv w U ρ (.kb b) (.bool b)
 |bool (b:Bool):Rv w U ρ (.bool b) (.bool b)
 |int (k:IntKind) (n:Int) (h:du k n):Rv w U ρ (.int k n) (.int k n)
 |str (s:zK) (h:Io s<=aE):Rv w U ρ (.str s) (.string ⟨s.toArray⟩)
 |nils (a:Option Addr):Rv w U ρ .nils (.slice a 0 0)
 |sl0 (e:Sh) (a:Option Addr) (c:Nat):Rv w U ρ (.sl e []) (.slice a 0 c)
 | sl (e:Sh) (l:List (Sem e)) (b o c:Nat) (vals:Nat→Nat→Value) (hc:Io l≤c) (hm:Io l≤aE) (hb:b < w.heap.size) (hU:¬ U b)
   (hcell:∀i j,i<Io l->j<e.size->w.cell? ⟨b,o+i*e.size+j,Q2⟩=Q1 (vals i j))
   (hr:∀i(hi:i<Io l)(j:Nat)(c:AV),(zD e l[i])[j]?=Q1 c->Rv w U ρ c (vals i j)):
   Rv w U ρ (.sl e l) (.slice (Q1 ⟨b,o,Q2⟩) (Io l) c)
 |vec (id:Nat) (v:Value) (h:ρ id=Q1 v) (h1:v.oneCell'=Q3):Rv w U ρ (.vec id) v
 |ptr (id off b:Nat) (h:ρ id=Q1 (.pointer (Q1 ⟨b,0,Q2⟩))):Rv w U ρ (.ptr id off) (.pointer (Q1 ⟨b,off,Q2⟩))
 |vptr (id sz i off b n c:Nat) (h:ρ id=Q1 (.slice (Q1 ⟨b,0,Q2⟩) n c)):Rv w U ρ (.vptr id sz i off) (.pointer (Q1 ⟨b,i*sz+off,Q2⟩))
 | eptr (cs:List AV) (off b o:Nat) (vals:Nat→Value) (hb:b < w.heap.size) (hU:¬ U b)
   (hcell:∀j,j<Io cs->w.cell? ⟨b,o+j,Q2⟩=Q1 (vals j)) (h1:∀j,j<Io cs->(vals j).oneCell'=Q3)
   (hr:∀(j:Nat)(c:AV),cs[j]?=Q1 c->Rv w U ρ c (vals j)):Rv w U ρ (.eptr cs off) (.pointer (Q1 ⟨b,o+off,Q2⟩))
 |nilp:Rv w U ρ .nilp (.pointer Q2)
 | agg (cs:List AV) (vs:List Value) (hl:Io cs=Io vs) (h1:∀ v∈vs,v.oneCell'=Q3)
   (hr:∀(j:Nat)(c:AV)(v:Value),cs[j]?=Q1 c->vs[j]?=Q1 v->Rv w U ρ c v):Rv w U ρ (.agg cs) (.agg vs.toArray)
 | tup (cs:List AV) (vs:List Value) (hl:Io cs=Io vs)
   (hr:∀(j:Nat)(c:AV)(v:Value),cs[j]?=Q1 c->vs[j]?=Q1 v->Rv w U ρ c v):Rv w U ρ (.tup cs) (.tuple vs.toArray)
 | clo (fn:Fn) (fs cs:List AV) (vf vc:List Value) (hf:Io fs=Io vf) (hc:Io cs=Io vc)
   (hrf:∀(j:Nat)(c:AV)(v:Value),fs[j]?=Q1 c->vf[j]?=Q1 v->Rv w U ρ c v) (hrc:∀(j:Nat)(c:AV)(v:Value),cs[j]?=Q1 c->vc[j]?=Q1 v->Rv w U ρ c v):
   Rv w U ρ (.clo fn fs cs) (.func fn vf.toArray vc.toArray)
 |nilf:Rv w U ρ .nilf .nilFunc
 |mp (id:Nat) (v:Value) (h:ρ id=Q1 v) (h1:v.oneCell'=Q3):Rv w U ρ (.mp id) v
 |ifcN:Rv w U ρ (.ifc Q3) .nilIface
 |ifcS (t:TypeId) (v:Value):Rv w U ρ (.ifc Q4) (.iface t v)
 |tab (k:IntKind) (zs:List Int) (b:Nat) (T:TypeId) (fr:Nat×Nat) (hb:w.heap[b]?=Q1 (.cells (zs.map λz=>Value.int k z).toArray T fr)) (hU:¬U b):Rv w U ρ (.tab k zs) (.pointer (Q1 ⟨b,0,Q2⟩))
 |gint (m:Int) (b:Nat) (T:TypeId) (fr:Nat×Nat) (hm:du .i64 m) (hb:w.heap[b]?=Q1 (.cells #[Value.int .i64 m] T fr)) (hU:¬U b):Rv w U ρ .gint (.pointer (Q1 ⟨b,0,Q2⟩))
structure di (w:World) (U:Nat->Prop) (ρ:Nat->Option Value) (cs:List AV) (vs:List Value):Prop where
 len:X cs=X vs
 rv:∀(j:Nat)(c:AV)(v:Value),cs[j]?=M c->vs[j]?=M v->Rv w U ρ c v
theorem wz{w:World}{b o:Nat}{v:Value}(h:w.cell? ⟨b,o,Q2⟩=M v):b<w.heap.size:=by unfold World.cell? at h;grind
variable {w':World}{U U':Nat->Prop}{ρ ρ':Nat->Option Value}{c:AV}
theorem Rv.mono{w:World}(hs:w.heap.size<=w'.heap.size)
  (hk:∀b,b<w.heap.size->¬U b->w'.heap[b]?=w.heap[b]?) (hu:∀b,b<w.heap.size->U' b->U b) (hρ:∀id v,ρ id=M v->ρ' id=M v)
   {v:Value} (h:Rv w U ρ c v):Rv w' U' ρ' c v:=by
 have u:∀b o v,¬U b->w.cell? ⟨b,o,Q2⟩=M v->w'.cell? ⟨b,o,Q2⟩=M v:=by
  intro b o v p hc;rw[World.cell?_of_block (hk b (wz hc) p)];exact hc
 induction h with
 |any v=>exact .any v
 |kb b=>exact .kb b
 |bool b=>exact .bool b
 |int k n h=>exact .int k n h
 |str s h=>exact .str s h
 |nils a=>exact .nils a
 |sl0 e a c=>exact .sl0 e a c
 | sl e l b o c h0 hc hm p q h2 hr ih=>
  exact .sl e l b o c h0 hc hm (ia p hs) (λh=>q (hu b p h)) (λi j hi hj=>u _ _ _ q (h2 i j hi hj)) ih
 |vec id v h h1=>exact .vec id v (hρ _ _ h) h1
 |ptr id z b h=>exact .ptr id z b (hρ _ _ h)
 |vptr id sz i z b n c h=>exact .vptr id sz i z b n c (hρ _ _ h)
 | eptr cs z b o h0 p q h2 h1 hr ih=>
  exact .eptr cs z b o h0 (ia p hs) (λh=>q (hu b p h)) (λj hj=>u _ _ _ q (h2 j hj)) h1 ih
 |nilp=>exact .nilp
 |agg cs vs hl h1 hr ih=>exact .agg cs vs hl h1 ih
 |tup cs vs hl hr ih=>exact .tup cs vs hl ih
 |clo fn fs cs vf vc hf hc h6 h5 h4 h3=>exact .clo fn fs cs vf vc hf hc h4 h3
 |nilf=>exact .nilf
 |mp id v h h1=>exact .mp id v (hρ _ _ h) h1
 |ifcN=>exact .ifcN
 |ifcS t v=>exact .ifcS t v
 | tab k zs b x fr p q=>
  have y:b<w.heap.size:=(mP.1 p).1;exact .tab k zs b x fr (by rw[hk b y q];exact p) (λh=>q (hu b y h))
 | gint m b x fr hm p q=>
  have y:b<w.heap.size:=(mP.1 p).1;exact .gint m b x fr hm (by rw[hk b y q];exact p) (λh=>q (hu b y h))
theorem di.mono{w:World}{x:Nat->Prop}(u:w.heap.size<=w'.heap.size)
  (t:∀b,b<w.heap.size->¬U b->w'.heap[b]?=w.heap[b]?) (y:∀b,b<w.heap.size->x b->U b) (hρ:∀id v,ρ id=M v->ρ' id=M v)
  {p:List AV} {s:List Value} (h:di w U ρ p s):di w' x ρ' p s:=
 ⟨h.len,λj c v q z=>(h.rv j c v q z).mono u t y hρ⟩
theorem Rv.weak{w:World}(x:∀b,U' b->U b){v:Value}(h:Rv w U ρ c v):Rv w U' ρ c v:=
 h.mono (zQ _) (λ_ _ _=>rfl) (λb _=>x b) (λ_ _ h=>h)
def AO.owns:AO->Bool
 |.box _|.vec _ _|.fmap _|.vmap _ _|.gmap _ _=>O
 |_=>S
def cd:Value->Option Nat
 |.pointer (M a)=>M a.block
 |.slice (M a) _ c=>if c=0 then Q2 else M a.block
 |.map (M r)=>M r
 |_=>Q2
def aq(ρ:Nat->Option Value)(id:Nat)(o:AO)(b:Nat):Prop:=o.owns=O/\∃v,ρ id=M v/\cd v=M b
def cO(k:Int×Int×zK):Value:=.agg #[.int .i64 k.1,.int .i64 k.2.1,.string ⟨k.q.toArray⟩]
def eX(k:Int×Int×zK):Prop:=du .i64 k.1/\du .i64 k.2.1/\X k.q<=aE
def mV(x:Array MapEntry)(p:Nat):Prop:=p=x.size/\∀(i:Nat)(e:MapEntry),x[i]?=M e->e.born=i
def wJ(u:Bool)(n:Int):Value:=bif u then .agg #[]else .int .i64 n
def bz(w:World)(U:Nat->Prop)(ρ:Nat->Option Value)(id:Nat):AO->Prop
 |.dead=>True
 |.box cs=>∃b x vals,ρ id=M (.pointer (M ⟨b,0,Q2⟩))/\U b/\w.heap[b]?=M (.cells vals x (0,0))/\di w U ρ cs vals.toList/\∀v∈vals.toList,v.oneCell'=O
 | .vec e l=>∃ a c,ρ id=Q1 (.slice a (Io l) c)∧Io l≤aE∧((l=[]∧c=0)∨∃ b x y,a=Q1 ⟨b,0,Q2⟩∧0 < c∧U b∧w.heap[b]?=Q1 (.cells y x (0,0))∧
   y.size=c*e.size/\X l<=c/\∀i(hi:i<X l)(j:Nat)(c:AV),(zD e l[i])[j]?=M c->∃v,y[i*e.size+j]?=M v/\Rv w U ρ c v)
 |.frz e l=>∃v,ρ id=M v/\Rv w U ρ (.sl e l) v
 | .fmap t=>∃ r q s,ρ id=Q1 (.map (Q1 r))∧U r∧w.heap[r]?=Q1 (.map q s)∧di w U ρ (t.map (·.2)) (q.toList.map (·.val))∧
   q.toList.map (·.key)=t.map λp=>Value.string ⟨p.1.toArray⟩
 | .vmap u t=>∃ r q s,ρ id=Q1 (.map (Q1 r))∧U r∧w.heap[r]?=Q1 (.map q s)∧(q.toList.map fun e=>(e.key,e.val))=(t.map fun p=>(cO p.1,wJ u p.2))∧
   (∀p∈t,du .i64 p.2/\eX p.1)/\mV q s
 | .gmap e t=>∃ (r:Nat) (q:Array MapEntry) (s:Nat) (z:List ((Int×Int×zK)×Value)),ρ id=Q1 (.map (Q1 r))∧U r∧w.heap[r]?=Q1 (.map q s)∧di w U ρ (t.map fun p=>sl e p.2) (z.map (·.2))∧
   (q.toList.map λe=>(e.key,e.val))=(z.map λp=>(cO p.1,p.2))/\z.map (·.1)=t.map (·.1)/\∀p∈z,eX p.1
theorem bz.mono{w:World}(hs:w.heap.size<=w'.heap.size)
  (hk:∀b,b<w.heap.size->¬U b->w'.heap[b]?=w.heap[b]?) (hu:∀b,b<w.heap.size->U' b->U b) (z:∀id v,ρ id=M v->ρ' id=M v)
  {id:Nat} {o:AO} (h:bz w U ρ id o) (s:∀b,aq ρ id o b->w'.heap[b]?=w.heap[b]?/\U' b):bz w' U' ρ' id o:=by
 cases o with
 |dead=>trivial
 | box cs=>
  have⟨b,x,h0,t,h2,y,h4,h5⟩:=h;have:=s b ⟨rfl,_,t,rfl⟩;exact⟨b,x,h0,z _ _ t,this.2,by rw[this.1];exact y,h4.mono hs hk hu z,h5⟩
 | vec e l=>
  have⟨a,c,t,h2,y⟩:=h;refine⟨a,c,z _ _ t,h2,?_⟩;rcases y with y|⟨b,x,h6,rfl,hc,hU,hb,h9,h7,hr⟩
  .exact .inl y
  .have:=s b ⟨rfl,_,t,by simp[cd];omega⟩;refine .inr ⟨b,x,h6,rfl,hc,this.2,by rw[this.1];exact hb,h9,h7,λi hi j c hx=>?_⟩;have⟨v,hv,h8⟩:=hr i hi j c hx;exact⟨v,hv,h8.mono hs hk hu z⟩
 | frz e l=>
  have⟨v,t,h2⟩:=h;exact⟨v,z _ _ t,h2.mono hs hk hu z⟩
 | fmap es=>
  have⟨r,q,p,t,h2,y,h4,h5⟩:=h;have:=s r ⟨rfl,_,t,rfl⟩;exact⟨r,q,p,z _ _ t,this.2,by rw[this.1];exact y,h4.mono hs hk hu z,h5⟩
 | vmap u es=>
  have⟨r,q,p,t,h2,y,h4,h5⟩:=h;have:=s r ⟨rfl,_,t,rfl⟩;exact⟨r,q,p,z _ _ t,this.2,by rw[this.1];exact y,h4,h5⟩
 | gmap e es=>
  have⟨r,q,p,gs,t,h2,y,h4,h5⟩:=h;have:=s r ⟨rfl,_,t,rfl⟩;exact⟨r,q,p,gs,z _ _ t,this.2,by rw[this.1];exact y,h4.mono hs hk hu z,h5⟩
theorem bz.inU{w:World}{id:Nat}{o:AO}(h:bz w U ρ id o){b:Nat}(hb:aq ρ id o b):U b/\b<w.heap.size:=by
 have⟨ho,v,s,p⟩:=hb;cases o with
 |dead=>simp[AO.owns]at ho
 |frz e l=>simp[AO.owns]at ho
 | box cs=>
  have⟨b',x,h0,t,h2,z,h4,h5⟩:=h;rw[t]at s;cases s;simp[cd]at p;grind
 | vec e l=>
  have⟨a,c,t,h2,z⟩:=h;rw[t]at s;cases s;rcases z with⟨_,rfl⟩|⟨b',x,h6,rfl,hc,hU,h7,_⟩
  .cases a<;>simp[cd]at p
  .simp[cd]at p;grind
 | fmap es=>
  have⟨r,y,q,t,h2,z,h4,h5⟩:=h;rw[t]at s;cases s;simp[cd]at p;grind
 | vmap u es=>
  have⟨r,y,q,t,h2,z,h4,h5⟩:=h;rw[t]at s;cases s;simp[cd]at p;grind
 | gmap e es=>
  have⟨r,y,q,gs,t,h2,z,h4,h5⟩:=h;rw[t]at s;cases s;simp[cd]at p;grind
theorem au:∀(s:Sh)(x:Sem s),(zD s x).length=s.size
 |.unit,_=>rfl
 |.bool,_=>rfl
 |.int _,_=>rfl
 |.str,_=>rfl
 |.sl _,_=>rfl
 |.pr a b,x=>by simp[zD,Sh.size,au a,au b]
 |.expr,_=>rfl
theorem ws{w:World}{hp:Nat->AO}{e:Sh}{l:List (Sem e)}{v:Value}
  (h:vj hp e c=M l) (hr:Rv w U ρ c v) (hu:∀b,U' b->U b)
  (h6:∀id∈dq c,bz w U ρ id (hp id)) (h7:∀id∈dq c,∀b,aq ρ id (hp id) b->¬U' b):Rv w U' ρ (.sl e l) v:=by
 cases c<;>simp[vj]at h
 case nils=>
  subst h;cases hr;exact .sl0 e _ _
 case sl q l'=>
  obtain⟨rfl,h⟩:=h;subst h;exact hr.weak hu
 case vec id=>
  cases hr with
  |vec _ _ hv _=>
  have h1:=h6 id (by simp[dq]);have h2:=h7 id (by simp[dq]);cases s:hp id with
  |dead=>simp[s]at h
  |box cs=>simp[s]at h
  |fmap es=>simp[s]at h
  |vmap u es=>simp[s]at h
  |gmap e es=>simp[s]at h
  | frz q l'=>
   simp[s]at h;obtain⟨rfl,h⟩:=h;subst h;rw[s]at h1;have⟨v',p,t⟩:=h1;rw[hv]at p;cases p;exact t.weak hu
  | vec q l'=>
   simp[s]at h;obtain⟨rfl,h⟩:=h;subst h;rw[s]at h1 h2;have⟨a,c,p,hm,h3⟩:=h1;rw[hv]at p;cases p;rcases h3 with⟨hl,hc⟩|⟨b,x,y,rfl,hc,hU,hb,h9,h0,h8⟩
   .show Rv w U' ρ (.sl q l') _;subst hl;exact .sl0 q _ _
   .show Rv w U' ρ (.sl q l') _;have h5:¬U' b:=h2 b ⟨rfl,_,hv,by simp[cd];omega⟩;have z:=(mP.1 hb).1;refine .sl q l' b 0 c (λi j=>(y[i*q.size+j]?).getD undef) h0 hm z h5 (λi j hi hj=>?_) (λi hi j cc hx=>?_)
    .have h4:i*q.size+j<y.size:=by
      rw[h9];have:(i+1)*q.size<=c*q.size:=f5 _ ow;rw[jN]at this;omega
     simp[World.cell?,hb,uf h4]
    .have⟨v,x0,t⟩:=h8 i hi j cc hx;simp[x0];exact t.weak hu
theorem pK{w:World}{hp:Nat->AO}(hu:∀b,U' b->U b):
  ∀(s:Sh)(u:List AV)(x:Sem s)(r:List AV)(p:Nat->Value),dB hp s u=M (x,r)->
   (∀(j:Nat)(c:AV),u[j]?=M c->Rv w U ρ c (p j))->(∀id∈u.flatMap dq,bz w U ρ id (hp id)/\∀b,aq ρ id (hp id) b->¬U' b)->
   u.length=s.size+X r/\r=u.drop s.size/\∀(j:Nat)(c:AV),(zD s x)[j]?=M c->Rv w U' ρ c (p j):=by
 intro s
 induction s with
 | unit=>
  intro u x r p h z t;simp[dB]at h;subst h;refine⟨by simp[Sh.size],by simp[Sh.size],by simp[zD]⟩
 | bool=>
  intro u x r p h z t;cases u with
  |nil=>simp[dB]at h
  | cons c u=>
   cases c<;>simp[dB]at h<;>(obtain⟨rfl,rfl⟩:=h)<;>refine⟨by simp[Sh.size];omega,by simp[Sh.size],?_⟩
   all_goals
    intro j c q;cases j with
    |succ j=>simp[zD]at q
    | zero=>
     simp[zD]at q;subst q;have:=z 0 _ rfl;generalize p 0=v at this;cases this;exact .bool _
 | int k=>
  intro u x r p h z t;cases u with
  |nil=>simp[dB]at h
  | cons c u=>
   cases c<;>simp[dB]at h
   obtain⟨rfl,rfl,rfl⟩:=h;refine⟨by simp[Sh.size];omega,by simp[Sh.size],?_⟩;intro j c q;cases j with
   |succ j=>simp[zD]at q
   | zero=>
    simp[zD]at q;subst q;exact(z 0 _ rfl).weak hu
 | str=>
  intro u x r p h z t;cases u with
  |nil=>simp[dB]at h
  | cons c u=>
   cases c<;>simp[dB]at h
   obtain⟨rfl,rfl⟩:=h;refine⟨by simp[Sh.size];omega,by simp[Sh.size],?_⟩;intro j c q;cases j with
   |succ j=>simp[zD]at q
   | zero=>
    simp[zD]at q;subst q;exact(z 0 _ rfl).weak hu
 | sl e ih=>
  intro u x r p h z t;cases u with
  |nil=>simp[dB]at h
  | cons c u=>
   simp only[dB]at h;split at h
   .rename_i l hl;cases h;refine⟨by simp[Sh.size];omega,by simp[Sh.size],?_⟩;intro j c q;cases j with
    |succ j=>simp[zD]at q
    | zero=>
     simp[zD]at q;subst q;exact ws hl (z 0 _ rfl) hu (λid y=>(t id (by simp[y])).1) (λid y=>(t id (by simp[y])).2)
   .cases h
 | pr a b h3 h4=>
  intro u x r p h z t;simp only[dB]at h;split at h
  .rename_i x1 r1 h1;split at h
   .rename_i x2 r2 h2;cases h;have⟨l1,e1,g1⟩:=h3 u x1 r1 p h1 z t;subst e1;have⟨l2,e2,g2⟩:=h4 _ x2 r (λj=>p (a.size+j)) h2 (λj c q=>by
      grind)
     (λid y=>t id (by
      grind))
    refine⟨?_,?_,?_⟩
    .simp[Sh.size]at*;omega
    .rw[e2,List.drop_drop];simp[Sh.size]
    .intro j c q;simp only[zD]at q;by_cases h0:j<a.size
     .rw[qK (by rw[au];exact h0)]at q;exact g1 j c q
     .rw[pn (by rw[au];omega),au]at q;grind
   .cases h
  .cases h
 | expr=>
  intro u x r p h z t;simp only[dB]at h;unfold w6 at h;split at h<;>try (cases h;done)
  rename_i op k i vs s c r';split at h
  .rename_i l hl;cases h;refine⟨by simp[Sh.size];omega,by simp[Sh.size],?_⟩;intro j c' q
   match j with
   |0=>simp[zD,zg.op]at q;subst q;exact(z 0 _ rfl).weak hu
   |1=>simp[zD,zg.v]at q;subst q;exact(z 1 _ rfl).weak hu
   |2=>simp[zD,zg.v]at q;subst q;exact(z 2 _ rfl).weak hu
   |3=>simp[zD,zg.v]at q;subst q;exact(z 3 _ rfl).weak hu
   |4=>simp[zD,zg.s]at q;subst q;exact(z 4 _ rfl).weak hu
   | 5=>
    simp[zD,zg.l]at q;subst q;exact ws hl (z 5 _ rfl) hu (λid y=>(t id (by simp[y])).1) (λid y=>(t id (by simp[y])).2)
   |j+6=>simp[zD]at q
  .cases h
@[simp] theorem Tr.val_bind  (t:Tr α) (k:α->Tr β):(t.bind k).val=t.val.bind λa=>(k a).val:=by
 induction t with
 |err=>rfl
 |chk c t q=>cases c<;>simp[Tr.bind,Tr.val,q]
 |br c t f p x=>cases c<;>simp[Tr.bind,Tr.val,p,x]
 |ok a=>rfl
@[simp] theorem Tr.val_err:(Tr.err:Tr α).val=Q2:=rfl
@[simp] theorem Tr.val_ok  (a:α):(Tr.ok a).val=M a:=rfl
@[simp] theorem Tr.val_chk  (c:Bool) (t:Tr α) (a:α):(chk c t).val=M a↔c=O/\t.val=M a:=by cases c<;>simp[Tr.val]
@[simp] theorem zwx (v:AV) (f:gy):(ret v).val=M f↔f={val:=v}:=by simp[ret,eq_comm]
@[simp] theorem zwo (v:Option AV) (f:gy):(Hu v).val=M f↔∃x,v=M x/\f={val:=x}:=by cases v<;>simp[Hu]
section
variable {P:Program} {w:World} {U:Nat->Prop} {ρ:Nat->Option Value}
variable {n:Nat}
theorem dr{t:TypeId}(h:gM P t=M n)(w:World):(Go.sizeOf t).run P w=.ok n w:=by
 unfold gM at h;cases x:P.info? t with
 |none=>simp[x]at h
 |some i=>simp[x]at h;simp[Go.sizeOf,typeInfo,x,h]
theorem kM{t:TypeId}{b:Bool}(h:GR P t=M b)(w:World):(isAgg t).run P w=.ok b w:=by
 unfold GR at h;cases x:P.underlying t with
 |none=>simp[x]at h
 |some d=>cases d<;>simp[x]at h<;>subst h<;>simp[isAgg,bM x]
theorem Addr.add_none(b o n:Nat):(⟨b,o,Q2⟩:Addr).add n=⟨b,o+n,Q2⟩:=by unfold Addr.add;split<;>simp_all
theorem A1{j k:Nat}(h:(List.range n)[j]?=M k):j<n/\k=j:=by grind
theorem vP{t:TypeId}{s:List AV}{p:Nat}{r:AV}{b o:Nat}{vals:Nat->Value}(h:uO P t s p=M r)
  (q:∀j,j<X s->w.cell? ⟨b,o+j,Q2⟩=M (vals j)) (h1:∀j,j<X s->(vals j).oneCell'=O)
  (hr:∀(j:Nat)(c:AV),s[j]?=M c->Rv w U ρ c (vals j)):
  ∃x,(loadVar t ⟨b,o+p,Q2⟩).run P w=.ok x w/\Rv w U ρ r x:=by
 unfold uO at h;split at h
 .rename_i n u hn;split at h
  .rename_i h0;cases h;refine⟨.agg ((List.range n).map λj=>vals (p+j)).toArray,?_,?_⟩
   .have:=run_loadCells_list (P:=P) w ⟨b,o+p,Q2⟩ ((List.range n).map λj=>vals (p+j)) (λj v z=>by
     rw[Addr.add_none];grind)
    simp only[cW,List.length_range]at this;simp[loadVar,kM u,dr hn,this]
   .refine .agg _ _ sg (λv z=>?_) (λj c v hc z=>?_)
    .grind
    grind
  .cases h
 next u=>have y:p<X s:=(dC.1 h).1;refine⟨vals p,?_,hr _ _ h⟩;simp[loadVar,kM u,q p y]
 .cases h
theorem Rv.sl_one{e:Sh}{l:List (Sem e)}{v:Value}(h:Rv w U ρ (.sl e l) v):v.oneCell'=O:=by cases h<;>rfl
theorem gF:∀(e:Sh)(x:Sem e)(j:Nat)(c:AV)(v:Value),(zD e x)[j]?=M c->Rv w U ρ c v->v.oneCell'=O
 |.unit,_,_,_,_,h,_=>by simp[zD]at h
 |.bool,_,0,_,_,h,p=>by simp[zD]at h;subst h;cases p;rfl
 |.int _,_,0,_,_,h,p=>by simp[zD]at h;subst h;cases p;rfl
 |.str,_,0,_,_,h,p=>by simp[zD]at h;subst h;cases p;rfl
 |.sl _,_,0,_,_,h,p=>by simp[zD]at h;subst h;cases p<;>rfl
 |.bool,_,_+1,_,_,h,_=>by simp[zD]at h
 |.int _,_,_+1,_,_,h,_=>by simp[zD]at h
 |.str,_,_+1,_,_,h,_=>by simp[zD]at h
 |.sl _,_,_+1,_,_,h,_=>by simp[zD]at h
 | .pr a b,x,j,c,v,h,p=>by
  simp only[zD]at h;rcases Nat.lt_or_ge j (zD a x.1).length with q|q
  .rw[qK q]at h;exact gF a _ _ _ _ h p
  .rw[pn q]at h;exact gF b _ _ _ _ h p
 | .expr,x,j,c,v,h,p=>by
  match j with
  |0=>simp[zD]at h;subst h;cases p;rfl
  |1=>simp[zD]at h;subst h;cases p;rfl
  |2=>simp[zD]at h;subst h;cases p;rfl
  |3=>simp[zD]at h;subst h;cases p;rfl
  |4=>simp[zD]at h;subst h;cases p;rfl
  |5=>simp[zD]at h;subst h;exact p.sl_one
  |_+6=>simp[zD]at h
theorem iO{av:AV}{cs:List AV}{v:Value}(h:cellsOf av=M cs)(hr:Rv w U ρ av v):
  di w U ρ cs v.cells.toList/\∀x∈v.cells.toList,x.oneCell'=O:=by
 have q:∀{av:AV},v.oneCell'=O->Rv w U ρ av v->di w U ρ [av] v.cells.toList/\∀x∈v.cells.toList,x.oneCell'=O:=by
  intro av y hr;have:v.cells=#[v]:=by cases v<;>simp[Value.oneCell']at y<;>rfl
  rw[this];refine⟨⟨rfl,λj c x hc hx=>?_⟩,by simpa using y⟩;cases j with
  |zero=>simp_all
  |succ j=>simp at hc
 cases hr with
 |any v=>simp[cellsOf]at h
 |tup cs vs hl hr=>simp[cellsOf]at h
 | agg h5 vs hl y hr=>
  simp[cellsOf]at h;subst h;exact⟨⟨by simp[Value.cells,hl],λj c v hc hv=>hr j c v hc (by simpa[Value.cells]using hv)⟩,by simpa[Value.cells]using y⟩
 |kb b=>simp[cellsOf]at h;subst h;exact q rfl (.kb b)
 |bool b=>simp[cellsOf]at h;subst h;exact q rfl (.bool b)
 |int k n hk=>simp[cellsOf]at h;subst h;exact q rfl (.int k n hk)
 |str s hs=>simp[cellsOf]at h;subst h;exact q rfl (.str s hs)
 |nils a=>simp[cellsOf]at h;subst h;exact q rfl (.nils a)
 |sl0 e a c=>simp[cellsOf]at h;subst h;exact q rfl (.sl0 e a c)
 |sl e l b o c h2 hc hm z hU u hr=>simp[cellsOf]at h;subst h;exact q rfl (.sl e l b o c h2 hc hm z hU u hr)
 |vec id v hv y=>simp[cellsOf]at h;subst h;exact q y (.vec id v hv y)
 |ptr id h0 b z=>simp[cellsOf]at h;subst h;exact q rfl (.ptr id h0 b z)
 |vptr id sz i h0 b n c z=>simp[cellsOf]at h;subst h;exact q rfl (.vptr id sz i h0 b n c z)
 |eptr cs h0 b o h2 z hU u y hr=>simp[cellsOf]at h;subst h;exact q rfl (.eptr cs h0 b o h2 z hU u y hr)
 |nilp=>simp[cellsOf]at h;subst h;exact q rfl .nilp
 |clo fn fs cs vf vc hf hc h4 h3=>simp[cellsOf]at h;subst h;exact q rfl (.clo fn fs cs vf vc hf hc h4 h3)
 |nilf=>simp[cellsOf]at h;subst h;exact q rfl .nilf
 |mp id v hv y=>simp[cellsOf]at h;subst h;exact q y (.mp id v hv y)
 |ifcN=>simp[cellsOf]at h;subst h;exact q rfl .ifcN
 |ifcS t v=>simp[cellsOf]at h;subst h;exact q rfl (.ifcS t v)
 |tab k zs b p fr z hU=>simp[cellsOf]at h;subst h;exact q rfl (.tab k zs b p fr z hU)
 |gint m b p fr hm z hU=>simp[cellsOf]at h;subst h;exact q rfl (.gint m b p fr hm z hU)
theorem Vu{b:Nat}{v:Array Value}{t:TypeId}{x:Nat×Nat}(h:w.heap[b]?=M (.cells v t x))(j:Nat)(p:j<v.size):
  w.cell? ⟨b,j,Q2⟩=M (v.toList.getD j undef):=by simp[World.cell?,h,uf p,List.getD]
variable {f:gy}
theorem IQ{hp:Nat->AO}{t:TypeId}{av:AV}{v:Value}(h:(Kx P hp t av).val=M f)(hv:Rv w U ρ av v)
  (x0:∀id∈av.ids,bz w U ρ id (hp id)):∃r x,f={val:=r}/\(Instr.loadAt t v).run P w=.ok x w/\Rv w U ρ r x:=by
 unfold Kx at h;split at h
 .rename_i id x2;cases hv with
  |ptr _ _ b hb=>
  have ho:=x0 id (by simp[AV.ids]);split at h
  .rename_i cs h6;rw[h6]at ho;have⟨b',p,z,s,h2,h3,h4,h5⟩:=ho;rw[hb]at s;cases s;simp at h;obtain⟨r,hr,rfl⟩:=h
   have⟨x,hx,y⟩:=vP (w:=w) (U:=U) (ρ:=ρ) (b:=b) (o:=0) (vals:=λj=>z.toList.getD j undef) hr
    (λj u=>by rw[eV];exact Vu h3 j (by rw[h4.len]at u;simpa using u))
    (λj u=>h5 _ (by
     rw[h4.len]at u;simp_all))
    (λj c hc=>h4.rv j c _ hc (by
     have u:j<z.toList.length:=by rw[<-h4.len];exact(dC.1 hc).1
     simp_all))
   rw[eV]at hx;exact⟨r,x,rfl,by simp[Instr.loadAt,Instr.sureAddr,hx],y⟩
  .simp at h
 .rename_i cs x2;cases hv with
  |eptr _ _ b o z hb hU h0 s hr=>
  simp at h;obtain⟨r,h7,rfl⟩:=h;have⟨x,hx,y⟩:=vP (w:=w) (U:=U) (ρ:=ρ) h7 h0 s hr;exact⟨r,x,rfl,by simp[Instr.loadAt,Instr.sureAddr,hx],y⟩
 .rename_i id sz i x2;cases hv with
  |vptr _ _ _ _ b n c hb=>
  have ho:=x0 id (by simp[AV.ids]);split at h
  .rename_i e l h6;rw[h6]at ho;have⟨a,c',s,hm,h3⟩:=ho;rw[hb]at s;cases s;split at h
   .rename_i x1;subst x1;simp at h;obtain⟨hi,r,hr,rfl⟩:=h;rcases h3 with⟨rfl,_⟩|⟨b',p,h8,x3,hc,hU,x4,x1,x5,h7⟩
    .simp at hi
    .cases x3;have h9:l[i]?.getD (zi e)=l[i]:=by simp[af hi]
     rw[h9]at hr;have q:∀j,j<(zD e l[i]).length->∃v c,h8[i*e.size+j]?=M v/\(zD e l[i])[j]?=M c/\Rv w U ρ c v:=by
      intro j u;have⟨v,s,h2⟩:=h7 i hi j _ (af u);exact⟨v,_,s,af u,h2⟩
     have⟨x,hx,y⟩:=vP (w:=w) (U:=U) (ρ:=ρ) (b:=b) (o:=i*e.size) (vals:=λj=>(h8[i*e.size+j]?).getD undef) hr
      (λj u=>by
       have⟨v,c,s,h2,h3⟩:=q j u;simp[World.cell?,x4,s])
      (λj u=>by
       have⟨v,c,s,h2,h3⟩:=q j u;simp only[s,bI];exact gF _ _ _ _ _ h2 h3)
      (λj c hc=>by
       grind)
     exact⟨r,x,rfl,by simp[Instr.loadAt,Instr.sureAddr,hx],y⟩
   .simp at h
  .simp at h
 .simp at h
theorem QS{t:TypeId}{fl:Nat}{x:AV}{v:Value}(h:(Kv P t fl x).val=M f)(hv:Rv w U ρ x v):
  ∃r p,f={val:=r}/\(Instr.fieldAt t v fl).run P w=.ok p w/\Rv w U ρ r p:=by
 unfold Kv at h;split at h
 .rename_i z s;unfold CB at s;split at s
  .rename_i fs hu;split at h
   .rename_i k hk;have q:∀a:Addr,(fieldPlace a z).run P w=.ok (a.add z.offset) w:=by
     intro a;simp[fieldPlace,dr hk]
    split at h
    .rename_i id u;cases hv with
     |ptr _ _ b hb=>
     simp at h;subst h;exact⟨_,_,rfl,by simp[Instr.fieldAt,bM hu,s,Instr.sureAddr,q,Addr.add_none],.ptr id (u+z.offset) b hb⟩
    .rename_i cs u;cases hv with
     |eptr _ _ b o h0 hb hU y h1 hr=>
     simp at h;subst h;refine⟨_,_,rfl,by simp[Instr.fieldAt,bM hu,s,Instr.sureAddr,q,Addr.add_none];rfl,?_⟩;rw[Nat.add_assoc];exact .eptr cs (u+z.offset) b o h0 hb hU y h1 hr
    .rename_i id sz i u;cases hv with
     |vptr _ _ _ _ b n c hb=>
     simp at h;subst h;refine⟨_,_,rfl,by simp[Instr.fieldAt,bM hu,s,Instr.sureAddr,q,Addr.add_none];rfl,?_⟩;rw[Nat.add_assoc];exact .vptr id sz i (u+z.offset) b n c hb
    .simp at h
   .simp at h
  .cases s
 .simp at h
theorem nj{k:Int}:zL k n=O↔0<=k/\k<n:=by simp[zL]
theorem SR{k:Int}{g:Nat->AV}{e:gy}:∀(n i:Nat),(Vk k g i n).val=M e->(i:Int)<=k->k<i+n->e={val:=g k.toNat}
 |0,_,h,_,_=>by simp[Vk]at h
 | 1,i,h,p,q=>by
  have:k.toNat=i:=by omega
  simp[Vk]at h;simp_all
 | n+2,i,h,p,q=>by
  rw[Vk,Tr.val]at h;split at h
  .simp_all
  .rename_i x;have x:k≠i:=by simpa using x
   exact SR (n+1) (i+1) h ow ow
theorem ED{hp:Nat->AO}{t:TypeId}{x ai:AV}{v vi:Value}(h:(ry P hp t x ai).val=M f)
  (hx:Rv w U ρ x v) (hi:Rv w U ρ ai vi) (x1:∀id∈x.ids,bz w U ρ id (hp id)):
  ∃r p,f={val:=r}/\(Instr.indexAt t v vi).run P w=.ok p w/\Rv w U ρ r p:=by
 have h9:∀(e:Sh)(l:List (Sem e))(k:Int)(ik:IntKind)(s:TypeId),P.underlying t=M (.slice s)->gM P s=M e.size->0<=k->k<X l->
   Rv w U ρ (.sl e l) v->∃p,(Instr.indexAt t v (.int ik k)).run P w=.ok p w/\Rv w U ρ (.eptr (zD e (l.getD k.toNat (zi e))) 0) p:=by
  intro e l k ik s hu u h0 h1 hr;cases hr with
  |sl0 _ a c=>simp at h1;omega
  | sl _ _ b o c z hc hm hb hU y h6=>
   have h2:k.toNat<X l:=by omega
   refine⟨.pointer (M ⟨b,o+k.toNat*e.size+0,Q2⟩),?_,?_⟩
   .simp[Instr.indexAt,asIntOf,bM hu,h0,h1,dr u,Addr.add_none]
   .have h7:l.getD k.toNat (zi e)=l[k.toNat]:=by simp[List.getD,af h2]
    rw[h7]
    exact .eptr _ 0 b (o+k.toNat*e.size) (λj=>z k.toNat j) hb hU (λj hj=>y _ _ h2 (by rwa [au]at hj))
     (λj hj=>gF _ _ j _ _ (af hj) (h6 _ h2 j _ (af hj))) (λj c hc=>h6 _ h2 j c hc)
 unfold ry at h;split at h
 .rename_i ik k;cases hi;split at h
  .rename_i s hu;split at h
   .rename_i e l;split at h
    next u=>simp[nj]at h;simp_all
    .simp at h
   .rename_i id;have ho:=x1 id (by simp[AV.ids]);split at h
    .rename_i e l h5;rw[h5]at ho;split at h
     .rename_i u;simp[nj]at h;obtain⟨⟨h0,h1⟩,rfl⟩:=h;have⟨a,c',hr,hm,h3⟩:=ho;cases hx with
      |vec _ _ hv _=>
      rw[hr]at hv;cases hv;rcases h3 with⟨rfl,_⟩|⟨b',q,x3,rfl,hc,hU,x4,x2,x5,h6⟩
      .simp at h1;omega
      .refine⟨_,.pointer (M ⟨b',k.toNat*e.size+0,Q2⟩),rfl,?_,.vptr id e.size k.toNat 0 b' _ _ hr⟩;simp[Instr.indexAt,asIntOf,bM hu,h0,h1,dr u,Addr.add_none]
     .simp at h
    .rename_i e l h5;rw[h5]at ho;split at h
     .rename_i u;simp[nj]at h;obtain⟨⟨h0,h1⟩,rfl⟩:=h;have⟨v',x7,x6⟩:=ho;cases hx with
      |vec _ _ hv _=>
      simp_all
     .simp at h
    .simp at h
   .simp at h
  .rename_i x8 s hu;split at h
   .rename_i sz u;split at h
    .rename_i id h4;simp[nj]at h;obtain⟨⟨h0,h1⟩,rfl⟩:=h;cases hx with
     |ptr _ _ b hb=>
     refine⟨_,_,rfl,?_,.ptr id (h4+k.toNat*sz) b hb⟩;simp[Instr.indexAt,asIntOf,bM hu,h0,h1,dr u,Addr.add_none,Instr.sureAddr]
    .rename_i cs h4;simp only[Tr.val]at h;split at h;rotate_left
     .cases h
     rename_i x0;have⟨h0,h1⟩:=nj.1 x0;have h:=SR _ _ h ow ow;subst h;cases hx with
     |eptr _ _ b o z hb hU y h8 hr=>
     refine⟨_,.pointer (M ⟨b,o+(h4+k.toNat*sz),Q2⟩),rfl,?_,.eptr cs (h4+k.toNat*sz) b o z hb hU y h8 hr⟩;simp[Instr.indexAt,asIntOf,bM hu,h0,h1,dr u,Addr.add_none,Instr.sureAddr,Nat.add_assoc]
    .simp at h
   .simp at h
  .simp at h
 .simp at h
end
section
variable {P:Program} {w:World} {U:Nat->Prop} {ρ:Nat->Option Value}
variable {k:IntKind}
theorem Wf{n:Int}(h:Ri k n=O):du k n:=by cases k<;>simp[Ri]at h<;>simp[du,IntKind.min,IntKind.max,IntKind.signed,IntKind.bits]<;>omega
theorem SN(v:Value):Rv w U ρ (J0 v) v:=by
 unfold J0;split
 .exact .kb _
 .split
  next h=>exact .int _ _ (Wf h)
  .exact .any _
 .rename_i s;split
  .rename_i h;have:s=⟨s.data.toList.toArray⟩:=by cases s;simp
   have x:s.data.toList.length<=aE:=by unfold aE;omega
   have:=Rv.str (w:=w) (U:=U) (ρ:=ρ) s.data.toList x;simpa using this
  .exact .any _
 .exact .nils _
 .exact .nilp
 .exact .nilf
 .exact .ifcN
 .exact .any _
theorem zfs(v:Value):zvV v=v.oneCell':=by cases v<;>rfl
theorem sH(v:Value):Rv w U ρ (B9 v) v:=by
 unfold B9;split
 .rename_i x;split
  .rename_i h;have:=Rv.agg (w:=w) (U:=U) (ρ:=ρ) (x.toList.map J0) x.toList sw (λv p=>by
    rw[<-zfs];exact ep.1 h v p) (λj c v q p=>by
    grind[SN])
   simpa using this
  .exact .any _
 .exact SN _
theorem nF(k:IntKind)(n:Int):du k (k.wrap n):=by cases k<;>simp[du,IntKind.min,IntKind.max,IntKind.signed,IntKind.bits,IntKind.wrap]<;>(try split)<;>omega
theorem Fj{c:Bool}{x y z:AV}{v:Value}(h:tj c x y=M z)(p:Rv w U ρ (ite c x y) v):Rv w U ρ z v:=by
  unfold tj at h;split at h
  all_goals first
    |(cases h;cases c<;>simp at p|-<;>cases p<;>first|exact .bool _|exact .str _ ‹_›)
    | (split at h
       · rename_i q;subst q;cases h;cases c<;>simp at p|-<;>exact p
       · cases h)
    |cases h
theorem Fy{t:TypeId}{u:List AV}{p:Nat}{r:AV}{s:List Value}(h:uO P t u p=M r)
  (hl:X u=X s) (z:∀v∈s,v.oneCell'=O) (hr:∀(j:Nat)(c:AV)(v:Value),u[j]?=M c->s[j]?=M v->Rv w U ρ c v):
  ∃x,(part t s.toArray p).run P w=.ok x w/\Rv w U ρ r x:=by
 unfold uO at h;split at h
 .rename_i n y hn;split at h
  .rename_i h0;cases h;refine⟨.agg (s.toArray.extract p (p+n)),by simp[part,kM y,dr hn],?_⟩;have he:s.toArray.extract p (p+n)=((s.drop p).take n).toArray:=by
    apply kT;simp[List.extract_eq_take_drop]
   rw[he];refine .agg _ _ (by simp[hl]) (λv q=>z v (List.mem_of_mem_drop (List.mem_of_mem_take q))) (λj c v hc q=>?_);grind
  .cases h
 next y=>have h2:p<X u:=(dC.1 h).1;have q:s[p]?=M s[p]:=af ow;refine⟨s[p],?_,hr _ _ _ h q⟩;simp[part,kM y,q]
 .cases h
theorem zf4(s:zK)(i:Nat)(h:i<X s):(⟨s.toArray⟩:ByteArray)[i]?=M (s.getD i 0):=by
 have x:i<(⟨s.toArray⟩:ByteArray).size:=by simpa[ByteArray.size]using h
 rw[getElem?_pos _ i x];simp[List.getD,af h];rfl
variable {f:gy}
theorem QT{t:TypeId}{x ai:AV}{v vi:Value}(h:(Kw P t x ai).val=M f)
  (u:Rv w U ρ x v) (hi:Rv w U ρ ai vi):∃r p,f={val:=r}/\(Instr.index t v vi).run P w=.ok p w/\Rv w U ρ r p:=by
 unfold Kw at h;split at h
 .rename_i ik k;cases hi;split at h
  .rename_i s hu;simp[nj]at h;obtain⟨⟨y,h1⟩,rfl⟩:=h;cases u with
   |str _ hs=>
   have z:k.toNat<X s:=by omega
   refine⟨_,.int .u8 (s.getD k.toNat 0).toNat,rfl,?_,?_⟩
   .simp[Instr.index,asIntOf,bM hu,y,zf4 s _ z]
   .rw[bx];refine .int _ _ ?_;have:=(s[k.toNat]?.getD 0).toNat_lt;simp[du,IntKind.min,IntKind.max,IntKind.signed,IntKind.bits];omega
  .rename_i h5 h4 cs hu;split at h
   .rename_i sz h3;split at h
    .rename_i r hp;simp[nj]at h;obtain⟨⟨y,h1⟩,rfl⟩:=h;cases u with
     |agg _ vs hl q hr=>
     have⟨p,u,h2⟩:=Fy (w:=w) (U:=U) (ρ:=ρ) hp hl q hr;exact⟨r,p,rfl,by simp[Instr.index,asIntOf,bM hu,y,h1,dr h3,u],h2⟩
    .simp at h
   .simp at h
  .simp at h
 .simp at h
theorem I7(n:Nat)(x:n<=aE):du .i64 (n:Int):=by unfold aE at x;simp[du,IntKind.min,IntKind.max,IntKind.signed,IntKind.bits];omega
theorem L8{e:Sh}{l:List (Sem e)}{v:Value}(t:Rv w U ρ (.sl e l) v):∃a c,v=.slice a (X l) c/\X l<=aE/\X l<=c:=by
 cases t with
 |sl0 _ a c=>exact⟨a,c,rfl,sw,sw⟩
 |sl _ _ b o c p q s z y x u=>exact⟨_,_,rfl,s,q⟩
theorem GF(s:zK):(⟨s.toArray⟩:ByteArray).size=X s:=by simp[ByteArray.size]
theorem Zd{hp:Nat->AO}{t:TypeId}{x:AV}{v:Value}{ty:TypeId}(h:(Zc P hp t x).val=M f)(hx:Rv w U ρ x v)
  (h6:∀id∈x.ids,bz w U ρ id (hp id)):
  ∃r p,f={val:=r}/\(Builtin.len_ #[t] ty #[v]).run P w=.ok p w/\Rv w U ρ r p:=by
 unfold Zc at h;split at h
 .rename_i y;split at h
  .rename_i s;simp at h;subst h;cases hx with
   |str _ hs=>exact⟨_,.int .i64 (X s),rfl,by simp[Builtin.len_,bM y,goInt,GF],.int _ _ (I7 _ hs)⟩
  .simp at h
 .rename_i e0 y;split at h
  .simp at h;subst h;cases hx;exact⟨_,_,rfl,by simp[Builtin.len_,bM y,goInt],.int _ _ (I7 0 sw)⟩
  next e l=>simp at h;subst h;obtain⟨a,c,rfl,hm,_⟩:=L8 hx;exact⟨_,_,rfl,by simp[Builtin.len_,bM y,goInt],.int _ _ (I7 _ hm)⟩
  .rename_i id;have z:=h6 id (by simp[AV.ids]);cases hx with
   |vec _ _ hv _=>
   split at h
   next e l q=>rw[q]at z;have⟨a,c',hr,hm,h3⟩:=z;rw[hr]at hv;cases hv;simp at h;subst h;exact⟨_,_,rfl,by simp[Builtin.len_,bM y,goInt],.int _ _ (I7 _ hm)⟩
   next e l q=>rw[q]at z;have⟨v',h7,h9⟩:=z;rw[hv]at h7;cases h7;obtain⟨a,c,rfl,hm,_⟩:=L8 h9;simp at h;subst h;exact⟨_,_,rfl,by simp[Builtin.len_,bM y,goInt],.int _ _ (I7 _ hm)⟩
   .simp at h
  .simp at h
 .rename_i kt et y;split at h
  .rename_i id;have z:=h6 id (by simp[AV.ids]);cases hx with
   |mp _ _ hv _=>
   split at h
   .rename_i u es q;rw[q]at z;have⟨r,h0,h8,h1,h2,h3,h4,h5⟩:=z;rw[h1]at hv;cases hv;simp at h;obtain⟨x0,rfl⟩:=h;have hl:h0.size=X es:=by have:=congrArg X h4;simpa using this
    exact⟨_,.int .i64 (X es),rfl,by simp[Builtin.len_,bM y,goInt,g8 h3,hl,Result.andThen],.int _ _ (I7 _ um)⟩
   .simp at h
  .simp at h
 .simp at h
variable {a b:Value}
theorem Y9{d:Nat}{t:TypeId}{x y:AV}{r:Bool}(h:eqT P t x y=M r)(q:Rv w U ρ x a)(s:Rv w U ρ y b):
  (Op.equalIn (d+1) t a b).run P w=.ok r w:=by
 unfold eqT at h;split at h
 .rename_i p;split at h
  next u=>subst u;cases h;cases q;cases s;exact run_equalIn_int w d t _ _ _ _ p
  .cases h
 next p=>cases h;cases q;cases s;rw[run_equalIn_string w d t _ _ p];simp
 all_goals first
  |(rename_i p;cases h;cases q;cases s;exact run_equalIn_bool w d t _ _ p)
  |cases h
theorem zez{t:TypeId}{x y:AV}{r:Bool}(h:eqT P t x y=M r):GR P t=M S:=by unfold eqT at h;split at h<;>simp_all[GR]
theorem Tg{d:Nat}:∀(s:List Field)(i:Nat)(u y:List AV)(r:Bool)(p q:Array Value),Hh P s i u y=M r->
  (∀(j:Nat) c,u[j]?=M c->∃v,p[i+j]?=M v/\Rv w U ρ c v)->(∀(j:Nat) c,y[j]?=M c->∃v,q[i+j]?=M v/\Rv w U ρ c v)->
  (Op.eqFields (d+1) p q s).run P w=.ok r w
 | [],i,[],[],r,p,q,h,_,_=>by
  simp[Hh]at h;subst h;simp[Op.eqFields]
 | f :: s,i,a::u,b::y,r,p,q,h,hx,hy=>by
  simp only[Hh]at h;split at h
  .rename_i hc;simp at hc;have⟨hn,ho⟩:=hc;split at h
   .rename_i r1 s1 h1 h2;cases h;have⟨va,h4,h0⟩:=hx 0 a rfl;have⟨vb,h5,h3⟩:=hy 0 b rfl;have x:∀(vz:Array Value)(v:Value),vz[i+0]?=M v->(part f.type vz f.offset).run P w=.ok v w:=by
     intro vz v t;rw[ve]at t;simp[part,kM (zez h1),ho,t]
    have ih:=Tg (d:=d) s (i+1) u y s1 p q h2 (λj c z=>by
      have⟨v,t,hr⟩:=hx (j+1) c z;grind)
     (λj c z=>by
      have⟨v,t,hr⟩:=hy (j+1) c z;grind)
    simp only[Op.eqFields,ne_eq,hn,not_false_eq_true,zj,dz,x p va h4,x q vb h5,qv,Y9 h1 h0 h3,Sem.run_ite,Sem.run_pure,ih];cases r1<;>simp
   .cases h
  .cases h
 |[],_,_::_,_,_,_,_,h,_,_=>by simp[Hh]at h
 |[],_,[],_::_,_,_,_,h,_,_=>by simp[Hh]at h
 |_::_,_,[],_,_,_,_,h,_,_=>by simp[Hh]at h
 |_::_,_,_::_,[],_,_,_,h,_,_=>by simp[Hh]at h
theorem QN{t:TypeId}{x y:AV}{r:Bool}(h:eqA P t x y=M r)(ha:Rv w U ρ x a)(hb:Rv w U ρ y b)
  (h4:∀k n k' n',x=.int k n->y=.int k' n'->False) (h5:∀s s',x=.str s->y=.str s'->False):
  (Op.equal t a b).run P w=.ok r w/\(∀z p q,(eqGuard z t p q a b).run P w=.ok () w)/\((∃c d,a=.bool c/\b=.bool d)\/∃c d,a=.agg c/\b=.agg d):=by
 unfold eqA at h;split at h
 .rename_i a' b';cases ha with
  |agg _ vs hl h1 hr=>
  cases hb with
  |agg _ h0 h3 h7 h6=>
  split at h
  .rename_i fs hu;split at h
   .rename_i hc;simp at hc;have⟨hs,hg⟩:=hc;refine⟨?_,λz p q=>run_eqGuard_agg w z t p q _ _ hg,.inr ⟨_,_,rfl,rfl⟩⟩;have hf:P.fieldsOf t=fs:=by simp[Program.fieldsOf,hu]
    show(Op.equalIn (9999+1) t _ _).run P w=_;rw[run_equalIn_struct w 9999 t _ _ (by rw[hf];exact hu) hs,hf];refine Tg (U:=U) (ρ:=ρ) (d:=9998) fs.toList 0 a' b' r _ _ h (λj c v=>?_) (λj c v=>?_)
    .have u:j<X vs:=by rw[<-hl];exact(dC.1 v).1
     exact⟨vs[j],by simp[af u],hr j c _ v (af u)⟩
    .have u:j<X h0:=by rw[<-h3];exact(dC.1 v).1
     exact⟨h0[j],by simp[af u],h6 j c _ v (af u)⟩
   .cases h
  .cases h
 .have h':=h;unfold eqT at h;split at h
  .exact zz (h4 _ _ _ _ rfl rfl) id
  .exact zz (h5 _ _ rfl rfl) id
  all_goals first
   |(cases h;have h2:=Y9 (d:=9999) h' ha hb;cases ha;cases hb;exact⟨h2,λz p q=>by cases z<;>simp[eqGuard],.inl ⟨_,_,rfl,rfl⟩⟩)
   |cases h
theorem zdT{op:BinOp}{t:TypeId}{x y:AV}(p q:Operand)(h:(zl4 P op t x y).val=M f)(ha:Rv w U ρ x a)(hb:Rv w U ρ y b)
  (u:∀k n k' n',x=.int k n->y=.int k' n'->False) (v:∀s s',x=.str s->y=.str s'->False):
  ∃r z,f={val:=r}/\(do eqGuard op t p q a b;binOp op t a b:Go.Sem Value).run P w=.ok z w/\Rv w U ρ r z:=by
 unfold zl4 at h;split at h
 .split at h
  next r hr=>simp at h;subst h;have⟨h1,h2,h3⟩:=QN hr ha hb u v;refine⟨_,.bool r,rfl,?_,.bool r⟩;rw[dz,h2];rcases h3 with⟨c,d,rfl,rfl⟩|⟨c,d,rfl,rfl⟩<;>simp[binOp,h1]
  .simp at h
 .split at h
  next r hr=>simp at h;subst h;have⟨h1,h2,h3⟩:=QN hr ha hb u v;refine⟨_,.bool (!r),rfl,?_,.bool (!r)⟩;rw[dz,h2];rcases h3 with⟨c,d,rfl,rfl⟩|⟨c,d,rfl,rfl⟩<;>simp[binOp,h1]
  .simp at h
 .simp at h
theorem UI{a b:Int}(x:du k a)(p:du k b)(q:b≠0):k.wrap (a.tmod b)=a.tmod b:=by
 have s:=Int.tmod_lt_of_pos;have:(a.tmod b).natAbs<b.natAbs:=by
  rw[Int.natAbs_tmod];exact nJ _ ow
 have t:0<=a->0<=a.tmod b:=λh=>Int.tmod_nonneg b h
 cases k<;>simp[du,IntKind.min,IntKind.max,IntKind.signed,IntKind.bits]at x p<;>simp[IntKind.wrap,IntKind.signed,IntKind.bits]<;>(try split)<;>omega
theorem zeL{a:Int}(h:du k a):du k (a/2):=by have⟨x,p⟩:=h;cases k<;>(simp only[du,IntKind.min,IntKind.max,IntKind.signed,IntKind.bits]at x p|-;simp at x p|-;omega)
theorem zdU{u:BinOp}{t:TypeId}{a b:Int}(p q:Operand)(h:(zl5 u k a b).val=M f)(v:du k a)(y:du k b):
  ∃r z,f={val:=r}/\(do eqGuard u t p q (.int k a) (.int k b);binOp u t (.int k a) (.int k b):Go.Sem Value).run P w=.ok z w/\Rv w U ρ r z:=by
 have x:∀u,(eqGuard u t p q (.int k a) (.int k b)).run P w=.ok () w:=by intro u;cases u<;>simp[eqGuard]
 unfold zl5 at h;split at h
 .simp at h;subst h;exact⟨_,_,rfl,by rw[dz,x];simp[binOp,Op.intArith],.int _ _ (nF _ _)⟩
 .simp at h;subst h;exact⟨_,_,rfl,by rw[dz,x];simp[binOp,Op.intArith],.int _ _ (nF _ _)⟩
 .simp at h;subst h;exact⟨_,_,rfl,by rw[dz,x];simp[binOp,Op.intArith],.int _ _ (nF _ _)⟩
 .simp at h;obtain⟨s,rfl⟩:=h;exact⟨_,_,rfl,by rw[dz,x];simp[binOp,Op.intDiv,s],.int _ _ (nF _ _)⟩
 .simp at h;obtain⟨s,rfl⟩:=h;refine⟨_,.int k (a.tmod b),rfl,by rw[dz,x];simp[binOp,Op.intDiv,s],?_⟩;rw[UI v y s];exact .int _ _ (by rw[<-UI v y s];exact nF _ _)
 .simp at h;obtain⟨s,rfl⟩:=h;subst s;refine⟨_,.int k (a/2),rfl,?_,.int _ _ (zeL v)⟩;have hk:min 1 k.bits=1:=by cases k<;>rfl
  have hd:a.fdiv 2=a/2:=by rw[Int.fdiv_eq_ediv_of_nonneg];omega
  rw[dz,x];simp[binOp,Op.shift,hk,hd]
 .simp at h;subst h;exact⟨_,_,rfl,by rw[dz,x];simp[binOp,Op.intBits],.int _ _ (nF _ _)⟩
 all_goals first
  |(simp at h;subst h;exact⟨_,_,rfl,by rw[dz,x];simp[binOp,Op.intCmp],.bool _⟩)
  |simp at h
theorem Sg(a b:zK):(⟨a.toArray⟩:ByteArray)++⟨b.toArray⟩=⟨(a++b).toArray⟩:=by apply ByteArray.ext;simp
theorem zdV{x:BinOp}{t:TypeId}{a b:zK}(p q:Operand)(h:(zl6 x a b).val=M f):
  ∃r z,f={val:=r}/\(do eqGuard x t p q (.string ⟨a.toArray⟩) (.string ⟨b.toArray⟩);binOp x t (.string ⟨a.toArray⟩) (.string ⟨b.toArray⟩):Go.Sem Value).run P w=.ok z w/\Rv w U ρ r z:=by
 have s:∀x,(eqGuard x t p q (.string ⟨a.toArray⟩) (.string ⟨b.toArray⟩)).run P w=.ok () w:=by intro x;cases x<;>simp[eqGuard]
 unfold zl6 at h;split at h
 .simp at h;obtain⟨u,rfl⟩:=h;refine⟨_,.string ⟨(a++b).toArray⟩,rfl,?_,.str _ (by unfold aE;simp;omega)⟩;rw[dz,s];simp[binOp,Op.stringOp,GF,Sg];omega
 all_goals first
  |(simp at h;subst h;exact⟨_,_,rfl,by rw[dz,s];simp[binOp,Op.stringOp],.bool _⟩)
  |simp at h
theorem zfX{s:BinOp}{t:TypeId}{v:IntKind}{a b:Int}(p q:Operand)(h:(zoy s k a b).val=M f)(u:du k a):
  ∃r z,f={val:=r}/\(do eqGuard s t p q (.int k a) (.int v b);binOp s t (.int k a) (.int v b):Go.Sem Value).run P w=.ok z w/\Rv w U ρ r z:=by
 unfold zoy at h;split at h
 .simp at h;obtain⟨y,rfl⟩:=h;refine⟨_,_,rfl,by simp[eqGuard,binOp,Op.shift,show¬b<0 by omega],.int _ _ ?_⟩;generalize min b.toNat k.bits=n;have x:(0:Int)<2^n:=Int.pow_pos (by decide);generalize(2:Int)^n=c at x;rw[Int.fdiv_eq_ediv_of_nonneg _ ow];have l1:min 0 a<=a/c:=by
   rcases Int.le_total 0 a with q|q
   .have:=Int.ediv_nonneg q (Int.le_of_lt x);omega
   .have h2:a*c<=a*1:=Int.mul_le_mul_of_nonpos_left q ow;have:=(Int.le_ediv_iff_mul_le x).2 (by simpa using h2);omega
  have l2:a/c<=max 0 a:=by
   rcases Int.le_total 0 a with q|q
   .have:=Int.ediv_le_self c q;omega
   .have:=Int.ediv_nonpos_of_nonpos_of_neg q x;omega
  have y:k.min<=0/\0<=k.max:=by cases k<;>decide
  exact⟨by have:=u.1;omega,by have:=u.2;omega⟩
 .simp at h
theorem zdS{op:BinOp}{t:TypeId}{x y:AV}(p q:Operand)(h:(zl3 P op t x y).val=M f)(u:Rv w U ρ x a)(v:Rv w U ρ y b):
  ∃r z,f={val:=r}/\(do eqGuard op t p q a b;binOp op t a b:Go.Sem Value).run P w=.ok z w/\Rv w U ρ r z:=by
 unfold zl3 at h;split at h
 .split at h
  .rename_i hk;subst hk;cases u with
   |int _ _ h1=>
   cases v with
   |int _ _ h2=>exact zdU p q h h1 h2
  .cases u with
   |int _ _ h1=>
   cases v with
   |int _ _ h2=>exact zfX p q h h1
 .cases u;cases v;exact zdV p q h
 next h0 h3=>exact zdT p q h u v (λk n k' n' e1 e2=>h0 k n k' n' e1 e2) (λs s' e1 e2=>h3 s s' e1 e2)
def qk(p:List Value)(x:Nat):List Value->List Value
 |[]=>p
 |v::r=>qk (p.set x v) (x+1) r
theorem jd:∀(r p:List Value)(x:Nat),(qk p x r).length=X p
 |[],_,_=>rfl
 |v::r,p,x=>by simp[qk,jd r]
theorem qF:∀(r p:List AV)(x:Nat),(setCells p x r).length=X p
 |[],_,_=>rfl
 |v::r,p,x=>by simp[setCells,qF r]
theorem Dj:∀(r:List AV)(t:List Value)(s:List AV)(u:List Value)(x:Nat),di w U ρ s u->di w U ρ r t->di w U ρ (setCells s x r) (qk u x t)
 |[],[],s,u,x,h,_=>h
 |[],_::_,_,_,_,_,h=>by have:=h.len;simp at this
 |_::_,[],_,_,_,_,h=>by have:=h.len;simp at this
 | c::r,v::t,s,u,x,h,h'=>by
  refine Dj r t _ _ (x+1) ⟨by simp[h.len],λj y v' p q=>?_⟩ ⟨by have:=h'.len;simpa using this,λj y v' p q=>h'.rv (j+1) y v' p q⟩;rw[mY]at p q;by_cases hj:x=j
  .simp only[hj,zj]at p q;split at p
   next z=>rw[zf (by rw[<-h.len];exact z)]at q;cases p;cases q;exact h'.rv 0 _ _ rfl rfl
   .cases p
  .rw[zh hj]at p q;exact h.rv j y v' p q
theorem Gz:∀(q s:List Value)(p:Nat),(∀v∈s,v.oneCell'=O)->(∀v∈q,v.oneCell'=O)->∀v∈qk s p q,v.oneCell'=O
 |[],_,_,h,_=>h
 | v::q,s,p,h,h'=>Gz q _ _ (fun x t=>by
   grind) (λx t=>h' x (by simp[t]))
theorem EO(q:List Value):∀(l:List Value)(k:Nat)(x:Nat),(l.zipIdx k).foldl (λ(q:Array Value)(p:Value×Nat)=>q.setIfInBounds (x+p.2) p.1) q.toArray=(qk q (x+k) l).toArray
 |[],_,_=>rfl
 | v::l,k,x=>by
  simp only[List.zipIdx_cons,List.foldl_cons,qk];have:=EO (q.set (x+k) v) l (k+1) x;grind
theorem EH{q:Nat->Option (Nat×Nat)}:∀(p:List (Nat×AV))(x:List (Nat×Value))(cs:List AV)(s:List Value)(r:List AV),
  IS q cs p=M r->di w U ρ cs s->(∀v∈s,v.oneCell'=O)->p.map (·.1)=x.map (·.1)->di w U ρ (p.map (·.2)) (x.map (·.2))->
  ∃vr,Instr.fill q s.toArray x=M vr/\di w U ρ r vr.toList/\∀v∈vr.toList,v.oneCell'=O
 | [],[],cs,s,r,h,hr,h1,_,_=>by
  simp[IS]at h;subst h;exact⟨s.toArray,by simp[Instr.fill],by simpa using hr,by simpa using h1⟩
 |[],_::_,_,_,_,_,_,_,h,_=>by simp at h
 |_::_,[],_,_,_,_,_,_,h,_=>by simp at h
 | (i,c)::p,(i',v)::x,cs,s,r,h,hr,h1,hi,hp=>by
  simp at hi;obtain⟨rfl,hi⟩:=hi;simp only[IS]at h;split at h
  .rename_i z h5 h6 h3 h0;split at h
   .rename_i h4;have⟨h7,h8⟩:=h4;have⟨t,u⟩:=iO (w:=w) (U:=U) (ρ:=ρ) h0 (hp.rv 0 c v rfl rfl)
    have⟨vr,e1,e2,e3⟩:=EH p x _ (qk s z v.cells.toList) r h (Dj _ _ _ _ _ hr t) (Gz _ _ _ h1 u) hi
     ⟨by have:=hp.len;simpa using this,λj c' v' hc hv=>hp.rv (j+1) c' v' hc hv⟩
    refine⟨vr,?_,e2,e3⟩;have y:=t.len;simp only[Array.length_toList]at y;have h2:=hr.len;simp only[Instr.fill,h3];rw[zh sg];have:=EO s v.cells.toList 0 z;grind[Array.toList_zipIdx]
   .cases h
  .cases h
theorem FA:∀(x:List Field)(p:List (Nat×Nat)),xp P x=M p->(x.mapM λf=>do pure (f.offset,<-Go.sizeOf f.type):Go.Sem (List (Nat×Nat))).run P w=.ok p w
 |[],p,h=>by simp[xp]at h;subst h;simp
 | f::r,p,h=>by
  simp only[xp]at h;split at h
  next n l s q=>cases h;have:=FA r l q;simp_all[dr]
  .cases h
theorem Vv{t:TypeId}{q:List (Nat×AV)}{vparts:List (Nat×Value)}{r:AV}(h:Qp P t q=M r)
  (hi:q.map (·.1)=vparts.map (·.1)) (hp:di w U ρ (q.map (·.2)) (vparts.map (·.2))):
  ∃x,(Instr.build t vparts.toArray).run P w=.ok x w/\Rv w U ρ r x:=by
 have s:∀p,uW P t=M (.agg p)->∃z:Value,(zeroValue t).run P w=.ok z w/\di w U ρ p z.cells.toList/\∀v∈z.cells.toList,v.oneCell'=O:=by
  intro p hz;unfold uW at hz;split at hz
  next i h1=>simp only[dW]at hz;have⟨z,y,h0⟩:=hz;have hr:=sH (w:=w) (U:=U) (ρ:=ρ) z;rw[h0]at hr;have:=iO (w:=w) (U:=U) (ρ:=ρ) (av:=.agg p) rfl hr;exact⟨z,by simp[zeroValue,typeInfo,h1,y],this.1,this.2⟩
  .cases hz
 unfold Qp at h;split at h
 .rename_i p fs hz hu;split at h
  .rename_i ps h4;simp only[dW]at h;obtain⟨r',h,rfl⟩:=h;have⟨z,y,h0,h2⟩:=s p hz;have⟨vr,e1,e2,e3⟩:=EH q vparts _ _ _ h h0 h2 hi hp;refine⟨.agg vr,?_,?_⟩
   .simp only[SQ]at e1;have hm:=FA (w:=w) fs.toList ps h4;have u:(fs.mapM λf=>do pure (f.offset,<-Go.sizeOf f.type):Go.Sem (Array (Nat×Nat))).run P w=.ok ps.toArray w:=by
     rw[Array.mapM_eq_mapM_toList,Sem.run_map,hm];rfl
    have h3:Instr.fill (λx=>ps.toArray[x]?) z.cells vparts=M vr:=by simpa using e1
    simp only[Instr.build,dz,y,qv,bM hu,u,h3,Sem.run_pure]
   .have:=Rv.agg (w:=w) (U:=U) (ρ:=ρ) r' vr.toList e2.len e3 e2.rv;simpa using this
  .cases h
 .rename_i p h6 h5 hz hu;split at h
  .rename_i n hn;simp only[dW]at h;obtain⟨r',h,rfl⟩:=h;have⟨z,y,h0,h2⟩:=s p hz;have⟨vr,e1,e2,e3⟩:=EH q vparts _ _ _ h h0 h2 hi hp;refine⟨.agg vr,?_,?_⟩
   .simp only[SQ]at e1;simp[Instr.build,y,bM hu,dr hn,e1]
   .have:=Rv.agg (w:=w) (U:=U) (ρ:=ρ) r' vr.toList e2.len e3 e2.rv;simpa using this
  .cases h
 .cases h
end
end Cad
