/- The abstract machine. -/
import Derived.WalkKit
import Derived.Deep.AppendSrc
namespace Cad
open Go
open List renaming length->Io
open Bool renaming false->Q4,true->Q3,false->M,true->Z
open Option renaming none->Q2,some->Q1,some->Y
open Decidable renaming decide->K
variable {α β:Type}
abbrev _root_.Prod.q{p:Type}(x:α×β×p):p:=x.2.2
abbrev _root_.Prod.t{p q s:Type}(x:α×β×p×q×s):s:=x.2.2.2.2
theorem _root_.And.q{a b c:Prop}(h:a/\b/\c):c:=h.2.2
theorem _root_.And.t{a b c d e:Prop}(h:a/\b/\c/\d/\e):e:=h.2.2.2.2
section
variable {A B C D E F G H N P U n o:Type} {a b c d e f g h i j k l m:Prop}
abbrev _root_.Prod.r(x:A×B×C×D):=x.2.2.2
theorem _root_.And.r(x:a/\b/\c/\d):d:=x.2.2.2
abbrev _root_.Prod.u(x:A×B×C×D×E×F):=x.2.2.2.2.2
theorem _root_.And.u(x:a/\b/\c/\d/\e/\f):f:=x.2.2.2.2.2
abbrev _root_.Prod.v(x:A×B×C×D×E×F×G):=x.2.2.2.2.2.2
theorem _root_.And.v(x:a/\b/\c/\d/\e/\f/\g):g:=x.2.2.2.2.2.2
abbrev _root_.Prod.w(x:A×B×C×D×E×F×G×H):=x.2.2.2.2.2.2.2
theorem _root_.And.w(x:a/\b/\c/\d/\e/\f/\g/\h):h:=x.2.2.2.2.2.2.2
abbrev _root_.Prod.x(x:A×B×C×D×E×F×G×H×N):=x.2.2.2.2.2.2.2.2
theorem _root_.And.x(x:a/\b/\c/\d/\e/\f/\g/\h/\i):i:=x.2.2.2.2.2.2.2.2
abbrev _root_.Prod.y(x:A×B×C×D×E×F×G×H×N×P):=x.2.2.2.2.2.2.2.2.2
theorem _root_.And.y(x:a/\b/\c/\d/\e/\f/\g/\h/\i/\j):j:=x.2.2.2.2.2.2.2.2.2
abbrev _root_.Prod.z(x:A×B×C×D×E×F×G×H×N×P×U):=x.2.2.2.2.2.2.2.2.2.2
theorem _root_.And.z(x:a/\b/\c/\d/\e/\f/\g/\h/\i/\j/\k):k:=x.2.2.2.2.2.2.2.2.2.2
abbrev _root_.Prod.s(x:A×B×C×D×E×F×G×H×N×P×U×n):=x.2.2.2.2.2.2.2.2.2.2.2
theorem _root_.And.s(x:a/\b/\c/\d/\e/\f/\g/\h/\i/\j/\k/\l):l:=x.2.2.2.2.2.2.2.2.2.2.2
abbrev _root_.Prod.p(x:A×B×C×D×E×F×G×H×N×P×U×n×o):=x.2.2.2.2.2.2.2.2.2.2.2.2
theorem _root_.And.p(x:a/\b/\c/\d/\e/\f/\g/\h/\i/\j/\k/\l/\m):m:=x.2.2.2.2.2.2.2.2.2.2.2.2
end
theorem ow{p:Prop}(h:p:=by omega):p:=h
theorem sw{p:Prop}(h:p:=by simp):p:=h
theorem sg{p:Prop}(h:p:=by simp;omega):p:=h
theorem kw{p:Prop}(h:p:=by kernel_rfl):p:=h
theorem Mw{p:Prop}(h:p:=by rfl):p:=h
abbrev bl0:List UInt8:=[100,101,108,101,116,101]
abbrev bl1:List UInt8:=[100,114,111,112]
abbrev na:List UInt8:=[103,114,111,117,112]
abbrev bl3:List UInt8:=[105,110,115,101,114,116]
abbrev fD:List UInt8:=[106,111,105,110]
abbrev pI:List UInt8:=[108,105,116]
abbrev oH:List UInt8:=[110,111,116]
abbrev qM:List UInt8:=[110,117,108,108]
abbrev wS:List UInt8:=[111,114]
abbrev bl9:List UInt8:=[114,101,97,100]
abbrev KJ:List UInt8:=[115,101,108,101,99,116]
abbrev QQ:List UInt8:=[117,110,114,101,97,100]
abbrev QR:List UInt8:=[117,110,119,114,105,116,101]
abbrev ND:List UInt8:=[117,112,100,97,116,101]
abbrev QS:List UInt8:=[119,114,105,116,101]
abbrev Cy:List UInt8:=[32,40,32]
abbrev zmw:List UInt8:=[32,41,32]
abbrev jm:List UInt8:=[32,41]
abbrev zBl:List UInt8:=[32,44,32,75,69,89,32,40,32]
abbrev zmx:List UInt8:=[32,44,32,82,69,70,69,82,69,78,67,69,83,32,40,32]
abbrev zmy:List UInt8:=[32,44,32,85,78,73,81,85,69,32,40,32]
abbrev fO:List UInt8:=[32,44,32]
abbrev zmz:List UInt8:=[32,61,32]
abbrev QT:List UInt8:=[32,65,78,68,32]
abbrev VP:List UInt8:=[32,66,89,32]
abbrev zem:List UInt8:=[32,67,72,69,67,75,32,40,32]
abbrev mj:List UInt8:=[32,70,82,79,77,32]
abbrev Ed:List UInt8:=[32,73,83,32,78,85,76,76,41]
abbrev zmA:List UInt8:=[32,78,79,84,32,78,85,76,76]
abbrev Cz:List UInt8:=[32,79,78,32]
abbrev QU:List UInt8:=[32,79,82,32]
abbrev zen:List UInt8:=[32,83,69,84,32]
abbrev VQ:List UInt8:=[32,83,85,77,32]
abbrev QV:List UInt8:=[32,84,79,32]
abbrev zeo:List UInt8:=[32,86,65,76,85,69,83,32,40,32]
abbrev zep:List UInt8:=[32,87,72,69,82,69,32]
abbrev pH:List UInt8:=[39,39]
abbrev zmB:List UInt8:=[40,41,44,61,60,43,45,42]
abbrev wQ:List UInt8:=[40,78,79,84,32]
abbrev Yp:List UInt8:=[65,78,68]
abbrev Ee:List UInt8:=[66,79,79,76]
abbrev HG:List UInt8:=[66,89]
abbrev NE:List UInt8:=[67,72,69,67,75,32,40,32]
abbrev je:List UInt8:=[67,72,69,67,75]
abbrev VR:List UInt8:=[67,79,80,89]
abbrev zeq:List UInt8:=[67,82,69,65,84,69,32,84,65,66,76,69,32]
abbrev zer:List UInt8:=[67,82,69,65,84,69]
abbrev zes:List UInt8:=[68,69,76,69,84,69,32,70,82,79,77,32]
abbrev zet:List UInt8:=[68,69,76,69,84,69]
abbrev zeu:List UInt8:=[68,82,79,80,32,84,65,66,76,69,32]
abbrev zev:List UInt8:=[68,82,79,80]
abbrev KK:List UInt8:=[70,65,76,83,69]
abbrev wR:List UInt8:=[70,82,79,77]
abbrev zsL:List UInt8:=[71,82,65,78,84,32,82,69,65,68,32,79,78,32]
abbrev zsM:List UInt8:=[71,82,65,78,84,32,87,82,73,84,69,32,79,78,32]
abbrev zmC:List UInt8:=[71,82,65,78,84,32]
abbrev zew:List UInt8:=[71,82,65,78,84]
abbrev VS:List UInt8:=[71,82,79,85,80]
abbrev Yq:List UInt8:=[73,78,83,69,82,84,32,73,78,84,79,32]
abbrev zex:List UInt8:=[73,78,83,69,82,84]
abbrev zey:List UInt8:=[73,78,84,79]
abbrev Eg:List UInt8:=[73,78,84]
abbrev VT:List UInt8:=[74,79,73,78]
abbrev zmD:List UInt8:=[75,69,89,32,40,32]
abbrev Yr:List UInt8:=[77,73,71,82,65,84,69,32,67,79,80,89,32]
abbrev zmE:List UInt8:=[77,73,71,82,65,84,69,32,71,82,79,85,80,32]
abbrev zmF:List UInt8:=[77,73,71,82,65,84,69,32,74,79,73,78,32]
abbrev Ys:List UInt8:=[77,73,71,82,65,84,69,32]
abbrev zez:List UInt8:=[77,73,71,82,65,84,69]
abbrev HH:List UInt8:=[78,85,76,76]
abbrev HI:List UInt8:=[79,78]
abbrev VU:List UInt8:=[82,69,65,68]
abbrev zsN:List UInt8:=[82,69,70,69,82,69,78,67,69,83]
abbrev zsO:List UInt8:=[82,69,86,79,75,69,32,82,69,65,68,32,79,78,32]
abbrev zsP:List UInt8:=[82,69,86,79,75,69,32,87,82,73,84,69,32,79,78,32]
abbrev zmG:List UInt8:=[82,69,86,79,75,69,32]
abbrev zeA:List UInt8:=[82,69,86,79,75,69]
abbrev zeB:List UInt8:=[83,69,76,69,67,84,32,42,32,70,82,79,77,32]
abbrev zeC:List UInt8:=[83,69,76,69,67,84]
abbrev HJ:List UInt8:=[83,85,77]
abbrev zeD:List UInt8:=[84,65,66,76,69]
abbrev Eh:List UInt8:=[84,69,88,84]
abbrev KL:List UInt8:=[84,82,85,69]
abbrev Yt:List UInt8:=[85,80,68,65,84,69,32]
abbrev zeE:List UInt8:=[85,80,68,65,84,69]
abbrev zeF:List UInt8:=[86,65,76,85,69,83]
abbrev nc:List UInt8:=[87,72,69,82,69]
abbrev jf:List UInt8:=[97,110,100]
abbrev fh:List UInt8:=[99,111,108]
abbrev dp:List UInt8:=[99,111,112,121]
abbrev QW:List UInt8:=[99,114,101,97,116,101]
abbrev zN:=List UInt8
abbrev DY:=@List.eq_nil_of_length_eq_zero
abbrev qX:=@Array.getD_eq_getD_getElem?
abbrev mZ:=@Array.getElem?_eq_some_iff
abbrev bD:=@List.getD_eq_getElem?_getD
abbrev pE:=@List.getElem?_append_right
abbrev uD:=@Array.getElem?_eq_getElem
abbrev kF:=@Classical.byContradiction
abbrev gF:=@List.drop_eq_getElem_cons
abbrev rz:=@List.getElem?_append_left
abbrev dF:=@List.getElem?_eq_some_iff
abbrev Tf:=@List.mem_or_eq_of_mem_set
abbrev zW:=@Bool.eq_false_or_eq_true
abbrev aj:=@List.getElem?_eq_getElem
abbrev gE:=@Option.bind_eq_some_iff
abbrev Ij:=@List.drop_eq_nil_of_le
abbrev DZ:=@List.take_of_length_le
abbrev ic:=@MapKept.run_getObj_map
abbrev oA:=@MapKept.run_setObj_map
abbrev dV:=@Option.map_eq_some_iff
abbrev BF:=@World.frozen?_of_block
abbrev uN:=@Array.getElem?_modify
abbrev ru:=@Array.getElem?_toList
abbrev Ik:=@List.contains_iff_mem
abbrev fa:=@List.getElem?_eq_none
abbrev Tg:=@List.getElem?_toArray
abbrev Th:=@Array.toArray_toList
abbrev D0:=@List.getElem?_set_ne
abbrev np:=@List.mem_cons_of_mem
abbrev gh:=@List.mem_of_getElem?
abbrev Nv:=@MapKept.run_checkKey
abbrev fM:=@Nat.mul_le_mul_right
abbrev Il:=@Nat.pow_le_pow_right
abbrev D1:=@List.getD_cons_succ
abbrev BG:=@List.getElem?_range
abbrev fN:=@List.getElem_of_mem
abbrev Nw:=@MapKept.run_findKey
abbrev dM:=@beq_eq_false_iff_ne
abbrev zA:=@Bool.false_eq_true
abbrev D2:=@List.getElem?_drop
abbrev jK:=@List.length_append
abbrev uO:=@List.mem_cons_self
abbrev fb:=@List.mem_singleton
abbrev ie:=@Nat.lt_of_lt_of_le
abbrev dz:=@Option.isSome_some
abbrev uP:=@Bool.not_eq_true'
abbrev BH:=@Function.comp_def
abbrev D3:=@Int.lt_trichotomy
abbrev aI:=@Int.toNat_natCast
abbrev D4:=@List.append_assoc
abbrev oB:=@List.ext_getElem?
abbrev dN:=@List.getElem?_map
abbrev nr:=@List.getElem?_set
abbrev Im:=@Nat.succ_le_of_lt
abbrev bH:=@Option.some.injEq
abbrev qJ:=@Result.andThen_ok
abbrev gj:=@bne_self_eq_false
abbrev bc:=@decide_eq_true_eq
abbrev lq:=@of_decide_eq_true
abbrev aO:=@Bool.and_eq_true
abbrev iW:=@Bool.not_eq_true
abbrev fe:=@IntKind.wrap_i64
abbrev ep:=@List.all_eq_true
abbrev kE:=@List.drop_length
abbrev bh:=@List.getElem_mem
abbrev fB:=@List.length_cons
abbrev oC:=@List.length_take
abbrev BI:=@List.mem_flatMap
abbrev eF:=@List.take_length
abbrev oD:=@MapKept.heap_set
abbrev In:=@Nat.min_eq_right
abbrev bK:=@Option.getD_some
abbrev oE:=@Bool.eq_iff_iff
abbrev oF:=@Bool.or_eq_true
abbrev wK:=@Int.natCast_add
abbrev rx:=@List.append_nil
abbrev BJ:=@List.cons.injEq
abbrev cY:=@List.length_map
abbrev qK:=@List.length_nil
abbrev nt:=@List.length_set
abbrev gm:=@List.map_append
abbrev dl:=@List.mem_append
abbrev Ip:=@List.nil_append
abbrev Iq:=@Nat.min_eq_left
abbrev Ir:=@Option.map_some
abbrev aC:=@decide_eq_false
abbrev dd:=@Bool.not_false
abbrev mh:=@Comes.of_steps
abbrev ry:=@List.mem_range
abbrev Is:=@Nat.mul_le_mul
abbrev zC:=@decide_eq_true
abbrev bN:=@run_underlying
abbrev nu:=@Bool.and_self
abbrev bW:=@Bool.not_true
abbrev eW:=@Bool.true_and
abbrev er:=@List.map_cons
abbrev ce:=@List.mem_cons
abbrev cQ:=@Prod.mk.injEq
abbrev qL:=@List.map_map
abbrev oG:=@List.map_nil
abbrev bt:=@List.mem_map
abbrev kY:=@Nat.add_comm
abbrev vC:=@Nat.add_zero
abbrev aV:=@Nat.le_trans
abbrev pD:=@Nat.pow_succ
abbrev jP:=@Nat.succ_mul
abbrev eI:=@Nat.zero_add
abbrev dB:=@Sem.run_bind
abbrev rt:=@Nat.add_mul
abbrev zR:=@Nat.le_refl
abbrev aK:=@Nat.zero_le
abbrev kZ:=@Array.ext'
abbrev bX:=@beq_iff_eq
abbrev aJ:=@cond_false
abbrev aG:=@cond_true
abbrev bV:=@eq_of_beq
abbrev zf:=@if_pos
abbrev zh:=@if_neg
abbrev zi:=@if_true
abbrev zm:=@if_false
abbrev aN:=@Prod.eta
abbrev ed:=@decide_eq_false_iff_not
abbrev zB:=@absurd
inductive zg where
 |mk (op:zN) (v:Int×Int×zN) (s:zN) (l:List zg)
def zg.op:zg->zN
 |.mk o _ _ _=>o
def zg.v:zg->Int×Int×zN
 |.mk _ v _ _=>v
def zg.s:zg->zN
 |.mk _ _ s _=>s
def zg.l:zg->List zg
 |.mk _ _ _ l=>l
inductive Sh where
 |unit
 |bool
 |int (k:IntKind)
 |str
 |sl (e:Sh)
 |pr (a b:Sh)
 |expr
 deriving DecidableEq
@[reducible] def Sem:Sh->Type
 |.unit=>Unit
 |.bool=>Bool
 |.int _=>Int
 |.str=>zN
 |.sl e=>List (Sem e)
 |.pr a b=>Sem a×Sem b
 |.expr=>zg
def zj:(s:Sh)->Sem s
 |.unit=>()
 |.bool=>M
 |.int _=>(0:Int)
 |.str=>([]:zN)
 |.sl e=>([]:List (Sem e))
 |.pr a b=>(zj a,zj b)
 |.expr=>zg.mk [] (0,0,[]) [] []
def Sh.size:Sh->Nat
 |.unit=>0
 |.pr a b=>a.size+b.size
 |.expr=>6
 |_=>1
inductive AV where
 |any
 |kb (b:Bool)
 |bool (b:Bool)
 |int (k:IntKind) (n:Int)
 |str (s:zN)
 |nils
 |sl (e:Sh) (l:List (Sem e))
 |vec (id:Nat)
 |ptr (id off:Nat)
 |vptr (id sz i off:Nat)
 |eptr (cells:List AV) (off:Nat)
 |nilp
 |agg (cells:List AV)
 |tup (vs:List AV)
 |clo (fn:Fn) (first caps:List AV)
 |nilf
 |mp (id:Nat)
 |ifc (bF:Bool)
 |tab (k:IntKind) (zs:List Int)
 |gint
@[match_pattern] abbrev ai (n:Int):AV:=.int .i64 n
abbrev ny:AV:=.any
def zF:(s:Sh)->Sem s->List AV
 |.unit,_=>[]
 |.bool,b=>[.bool b]
 |.int k,n=>[.int k n]
 |.str,s=>[.str s]
 |.sl e,l=>[.sl e l]
 |.pr a b,x=>zF a x.1++zF b x.2
 |.expr,e=>[.str e.op,.int .i64 e.v.1,.int .i64 e.v.2.1,.str e.v.q,.str e.s,.sl .expr e.l]
inductive AO where
 |dead
 |box (cells:List AV)
 |vec (e:Sh) (l:List (Sem e))
 |frz (e:Sh) (l:List (Sem e))
 |fmap (es:List (zN×AV))
 |vmap (u:Bool) (es:List ((Int×Int×zN)×Int))
 |gmap (e:Sh) (es:List ((Int×Int×zN)×List (Sem e)))
inductive Tr (α:Type) where
 |err
 |chk (c:Bool) (t:Tr α)
 |br (c:Bool) (t f:Tr α)
 |ok (a:α)
def Tr.val:Tr α->Option α
 |.err=>Q2
 |.chk c t=>if c then t.val else Q2
 |.br c t f=>if c then t.val else f.val
 |.ok a=>Y a
def Tr.bind:Tr α->(α->Tr β)->Tr β
 |.err,_=>.err
 |.chk c t,k=>.chk c (t.bind k)
 |.br c t f,k=>.br c (t.bind k) (f.bind k)
 |.ok a,k=>k a
structure gB where
 val:AV
 wr:List (Nat×AO):=[]
 nw:List AO:=[]
abbrev ak:=List AV->(Nat->AO)->Nat->Tr gB
structure cy where
 P:Program
 sh:TypeId->Option Sh
 gl:Nat->AV
 F:FuncId->Option ak
 own:Bool:=M
structure St where
 tmps:List AV
 heap:List AO
def St.hp(s:St)(id:Nat):AO:=s.heap.getD id .dead
def vE(p:Nat->AO)(e:Sh):AV->Option (List (Sem e))
 |.nils=>Y []
 |.sl x l=>if h:x=e then Y (h▸l)else Q2
 | .vec id=>match p id with
  |.vec x l=>if h:x=e then Y (h▸l)else Q2
  |.frz x l=>if h:x=e then Y (h▸l)else Q2
  |_=>Q2
 |_=>Q2
def xv(x:Nat->AO):List AV->Option (zg×List AV)
 | .str p::.int .i64 k::.int .i64 i::.str vs::.str s::c::r=>match vE x .expr c with
  |some l=>Y (zg.mk p (k,i,vs) s l,r)
  |none=>Q2
 |_=>Q2
def dD(q:Nat->AO):(s:Sh)->List AV->Option (Sem s×List AV)
 |.unit,p=>Y ((),p)
 |.bool,.bool b::r=>Y (b,r)
 |.bool,.kb b::r=>Y (b,r)
 |.int k,.int t n::r=>if t=k then Y (n,r)else Q2
 |.str,.str s::r=>Y (s,r)
 | .sl e,c::r=>match vE q e c with
  |some l=>Y (l,r)
  |none=>Q2
 | .pr a b,p=>match dD q a p with
  | some (x,r)=>match dD q b r with
   |some (y,u)=>Y ((x,y),u)
   |none=>Q2
  |none=>Q2
 |.expr,p=>xv q p
 |_,_=>Q2
def cellsOf:AV->Option (List AV)
 |.any=>Q2
 |.tup _=>Q2
 |.agg x=>Y x
 |v=>Y [v]
def Sh.isAgg:Sh->Bool
 |.pr _ _|.expr|.unit=>Z
 |_=>M
def AV.isAgg:AV->Bool
 |.agg _=>Z
 |_=>M
def BK(hp:Nat->AO)(s:Sh)(v:AV):Option (Sem s):=
 if s.isAgg==v.isAgg then match cellsOf v with
  | some p=>match dD hp s p with
   |some (x,[])=>Y x
   |_=>Q2
  |none=>Q2
 else Q2
def zX(s:Sh)(x:Sem s):AV:=
 match s.isAgg with
 |true=>.agg (zF s x)
 |false=>(zF s x).headD .any
def RQ(k:IntKind)(n:Int):Bool:=match k with
 |.i8=>K (-128<=n)&&K (n<=127)
 |.i16=>K (-32768<=n)&&K (n<=32767)
 |.i32=>K (-2147483648<=n)&&K (n<=2147483647)
 |.i64=>K (-9223372036854775808<=n)&&K (n<=9223372036854775807)
 |.u8=>K (0<=n)&&K (n<=255)
 |.u16=>K (0<=n)&&K (n<=65535)
 |.u32=>K (0<=n)&&K (n<=4294967295)
 |.u64=>K (0<=n)&&K (n<=18446744073709551615)
def Kz:Value->AV
 |.bool b=>.kb b
 |.int k n=>if RQ k n then .int k n else .any
 |.string s=>if s.data.toList.length<=1000000 then .str s.data.toList else .any
 |.slice Q2 0 0=>.nils
 |.pointer Q2=>.nilp
 |.nilFunc=>.nilf
 |.nilIface=>.ifc Z
 |_=>.any
def zwp:Value->Bool
 |.agg _|.tuple _=>M
 |_=>Z
def Cw:Value->AV
 |.agg x=>if x.toList.all zwp then .agg (x.toList.map Kz)else .any
 |v=>Kz v
def tH(c:Bool):AV->AV->Option AV
 |.bool a,.bool b=>Y (.bool (cond c a b))
 |.bool a,.kb b=>Y (.bool (cond c a b))
 |.kb a,.bool b=>Y (.bool (cond c a b))
 |.kb a,.kb b=>Y (.bool (cond c a b))
 |.int k a,.int x b=>if k=x then Y (.int k (cond c a b))else Q2
 |.str a,.str b=>Y (.str (cond c a b))
 |_,_=>Q2
def gR(P:Program)(t:TypeId):Option Nat:=(P.info? t).map (·.size)
def vu(P:Program)(t:TypeId):Option AV:=match P.info? t with
 |some i=>i.zero.map Cw
 |none=>Q2
def Ho(P:Program)(t:TypeId):Option Bool:=match P.underlying t with
 |some (.struct _)|some (.array _ _)=>Y Z
 |some _=>Y M
 |none=>Q2
def zcG(P:Program)(t:TypeId):Option (List AV):=match P.info? t with
 | some i=>match i.zero with
  |some (.map Q2)=>Y [.any]
  |some z=>cellsOf (Cw z)
  |none=>Q2
 |none=>Q2
def vg(P:Program)(t:TypeId)(p:List AV)(x:Nat):Option AV:=
 match Ho P t,gR P t with
 |some Z,Y n=>if x+n<=Io p then Y (.agg ((p.drop x).take n))else Q2
 |some M,_=>p[x]?
 |_,_=>Q2
def setCells(p:List AV)(x:Nat):List AV->List AV
 |[]=>p
 |v::r=>setCells (p.set x v) (x+1) r
def ret(v:AV):Tr gB:=.ok {val:=v}
def HX:Option AV->Tr gB
 |some v=>ret v
 |none=>.err
def CZ(P:Program)(t:TypeId)(f:Nat):Option Field:=match P.underlying t with
 |some (.struct x)=>x[f]?
 |_=>Q2
def zK(n:Int)(x:Nat):Bool:=K (0<=n)&&K (n<x)
def du:AV->List Nat
 |.vec id=>[id]
 |_=>[]
def Fh:AO->AO
 |.vec e l=>.frz e l
 |o=>o
def pX:AO->Bool
 |.vec _ _|.frz _ _=>Z
 |_=>M
def io(p:Nat->AO)(x:List Nat):List (Nat×AO):=x.map λid=>(id,Fh (p id))
def eqT(P:Program)(t:TypeId)(x y:AV):Option Bool:=
 match P.underlying t,x,y with
 |some (.int _),.int k a,.int p b=>if k=p then Y (a==b)else Q2
 |some .string,.str a,.str b=>Y (a==b)
 |some .bool,.bool a,.bool b=>Y (a==b)
 |some .bool,.bool a,.kb b=>Y (a==b)
 |some .bool,.kb a,.bool b=>Y (a==b)
 |some .bool,.kb a,.kb b=>Y (a==b)
 |_,_,_=>Q2
def HL(P:Program):List Field->Nat->List AV->List AV->Option Bool
 |[],_,[],[]=>Y Z
 | f::fs,i,a::xs,b::ys=>if f.name != "_" && f.offset==i then match eqT P f.type a b,HL P fs (i+1) xs ys with
   |some r,Y s=>Y (r&&s)
   |_,_=>Q2
  else Q2
 |_,_,_,_=>Q2
def eqA(P:Program)(t:TypeId)(x y:AV):Option Bool:=
 match x,y with
 | .agg a,.agg b=>match P.underlying t with
  |some (.struct p)=>if !P.stoodInHeld t&&!P.eqGuardType P.depth t then HL P p.toList 0 a b else Q2
  |_=>Q2
 |x,y=>eqT P t x y
def zmu(x:BinOp)(k:IntKind)(a b:Int):Tr gB:=
 match x with
 |.add=>ret (.int k (k.wrap (a+b)))
 |.sub=>ret (.int k (k.wrap (a-b)))
 |.mul=>ret (.int k (k.wrap (a*b)))
 |.quo=>.chk (b !=0) (ret (.int k (k.wrap (a.tdiv b))))
 |.rem=>.chk (b !=0) (ret (.int k (k.wrap (a.tmod b))))
 |.shr=>.chk (b==1) (ret (.int k (a/2)))
 |.and=>ret (.int k (k.wrap (BitVec.ofInt k.bits a &&& BitVec.ofInt k.bits b).toNat))
 |.eql=>ret (.bool (a==b))
 |.neq=>ret (.bool (a !=b))
 |.lss=>ret (.bool (K (a<b)))
 |.leq=>ret (.bool (K (a<=b)))
 |.gtr=>ret (.bool (K (a>b)))
 |.geq=>ret (.bool (K (a>=b)))
 |_=>.err
def zmv(x:BinOp)(a b:zN):Tr gB:=
 match x with
 |.add=>.chk (K (Io a+Io b<=1099511627776)) (ret (.str (a++b)))
 |.eql=>ret (.bool (a==b))
 |.neq=>ret (.bool (!(a==b)))
 |.lss=>ret (.bool (Op.bytesLess a b))
 |.leq=>ret (.bool (Op.bytesLess a b||a==b))
 |.gtr=>ret (.bool (!(Op.bytesLess a b||a==b)))
 |.geq=>ret (.bool (!Op.bytesLess a b))
 |_=>.err
def zmt(P:Program)(p:BinOp)(t:TypeId)(x y:AV):Tr gB:=
 match p with
 | .eql=>match eqA P t x y with
  |some r=>ret (.bool r)
  |none=>.err
 | .neq=>match eqA P t x y with
  |some r=>ret (.bool (!r))
  |none=>.err
 |_=>.err
def zoW(x:BinOp)(k:IntKind)(a b:Int):Tr gB:=
 match x with
 |.shr=>.chk (K (0<=b)) (ret (.int k (a.fdiv (2^min b.toNat k.bits))))
 |_=>.err
def zms(P:Program)(p:BinOp)(t:TypeId)(x y:AV):Tr gB:=
 match x,y with
 |.int k a,.int q b=>if k=q then zmu p k a b else zoW p k a b
 |.str a,.str b=>zmv p a b
 |x,y=>zmt P p t x y
def Jn(p:Nat->Option (Nat×Nat))(x:List AV):List (Nat×AV)->Option (List AV)
 |[]=>Y x
 | (i,v)::rest=>match p i,cellsOf v with
  |some (q,s),Y t=>if Io t=s/\q+Io t<=Io x then Jn p (setCells x q t) rest else Q2
  |_,_=>Q2
def xI(P:Program):List Field->Option (List (Nat×Nat))
 |[]=>Y []
 | f::r=>match gR P f.type,xI P r with
  |some n,Y l=>Y ((f.offset,n)::l)
  |_,_=>Q2
def QY(P:Program)(t:TypeId)(p:List (Nat×AV)):Option AV:=
 match vu P t,P.underlying t with
 | some (.agg z),Y (.struct q)=>
  match xI P q.toList with
  |some s=>(Jn (λi=>s[i]?) z p).map .agg
  |none=>Q2
 | some (.agg z),Y (.array _ x)=>match gR P x with
  |some n=>(Jn (λi=>Y (i*n,n)) z p).map .agg
  |none=>Q2
 |_,_=>Q2
def Aj(hp:Nat->AO)(e:Sh):List AV->Option (List (Sem e))
 |[]=>Y []
 | v::r=>match BK hp e v,Aj hp e r with
  |some x,Y l=>Y (x::l)
  |_,_=>Q2
def xw:Nat->List (Nat×AV)->Bool
 |_,[]=>Z
 |n,(i,_)::r=>i==n&&xw (n+1) r
def K5(P:Program)(q:Nat->AO)(t:TypeId):AV->Tr gB
 | .ptr id x=>match q id with
  |.box p=>HX (vg P t p x)
  |_=>.err
 |.eptr p x=>HX (vg P t p x)
 | .vptr id sz i x=>match q id with
  |.vec e l=>if e.size=sz then .chk (K (i<Io l)) (HX (vg P t (zF e (l.getD i (zj e))) x))else .err
  |_=>.err
 |_=>.err
def K6(P:Program)(p:Nat->AO)(t:TypeId)(a x:AV):Tr gB:=
 match cellsOf x,gR P t with
 | some v,Q1 sz=>if Io v=sz then match a with
   | .ptr id off=>match p id with
    |.box q=>if off+sz<=Io q then .ok {val:=.tup [],wr:=[(id,.box (setCells q off v))]}else .err
    |_=>.err
   | .vptr id sz' i off=>match p id with
    | .vec e l=>if e.size=sz'∧off+sz≤sz'∧(v.flatMap du).all (fun j=>pX (p j)&&j != id) then match dD p e (setCells (zF e (l.getD i (zj e))) off v) with
      |some (x,[])=>.chk (K (i<Io l)) (.ok {val:=.tup [],wr:=(id,.vec e (l.set i x))::io p (v.flatMap du)})
      |_=>.err
     else .err
    |_=>.err
   |_=>.err
  else .err
 |_,_=>.err
def K2(P:Program)(t:TypeId)(f:Nat)(x:AV):Tr gB:=
 match CZ P t f with
 | some q=>match gR P q.type with
  | some (_+1)=>match x with
   |.ptr id p=>ret (.ptr id (p+q.offset))
   |.eptr s p=>ret (.eptr s (p+q.offset))
   |.vptr id sz i p=>ret (.vptr id sz i (p+q.offset))
   |_=>.err
  |_=>.err
 |none=>.err
def VM(k:Int)(f:Nat->AV):Nat->Nat->Tr gB
 |_,0=>.err
 |i,1=>ret (f i)
 |i,n+2=>.br (k==(i:Int)) (ret (f i)) (VM k f (i+1) (n+1))
def rL(P:Program)(v:Nat->AO)(t:TypeId)(x i:AV):Tr gB:=
 match i with
 | .int _ k=>match P.underlying t with
  | some (.slice p)=>match x with
   |.sl e l=>if gR P p=Y e.size then .chk (zK k (Io l)) (ret (.eptr (zF e (l.getD k.toNat (zj e))) 0))else .err
   | .vec id=>match v id with
    |.vec e l=>if gR P p=Y e.size then .chk (zK k (Io l)) (ret (.vptr id e.size k.toNat 0))else .err
    |.frz e l=>if gR P p=Y e.size then .chk (zK k (Io l)) (ret (.eptr (zF e (l.getD k.toNat (zj e))) 0))else .err
    |_=>.err
   |_=>.err
  | some (.array q p)=>match gR P p with
   | some sz=>match x with
    |.ptr id s=>.chk (zK k q) (ret (.ptr id (s+k.toNat*sz)))
    |.eptr u s=>.chk (zK k q) (VM k (λi=>.eptr u (s+i*sz)) 0 q)
    |_=>.err
   |none=>.err
  |_=>.err
 |_=>.err
def K4(P:Program)(t:TypeId)(x i:AV):Tr gB:=
 match i with
 | .int _ k=>match P.underlying t,x with
  |some .string,.str s=>.chk (zK k (Io s)) (ret (.int .u8 (s.getD k.toNat 0).toNat))
  | some (.array q p),.agg u=>match gR P p with
   | some sz=>match vg P p u (k.toNat * sz) with
    |some v=>.chk (zK k q) (ret v)
    |none=>.err
   |none=>.err
  |_,_=>.err
 |_=>.err
def eC(v:AV):List Nat:=match cellsOf v with
 |some x=>x.flatMap du
 |none=>[]
def pO(E:cy)(u:Nat->AO)(t:TypeId)(q:Nat)(s:List (Nat×AV)):Tr gB:=
 match E.P.underlying t with
 | some (.slice x)=>match q with
  |0=>if s.isEmpty&&(gR E.P x).isSome then ret .nils else .err
  | _=>match E.sh x with
   | some e=>
    if Io s=q&&xw 0 s&&K (q*e.size<=100000)&&(s.flatMap λp=>eC p.2).all (λj=>pX (u j))then match Aj u e (s.map (·.2))with
     |some l=>.ok {val:=.sl e l,wr:=io u (s.flatMap λp=>eC p.2)}
     |none=>.err
    else .err
   |none=>.err
 |_=>.err
def vW(E:cy)(u:Nat->AO)(n:Nat)(t:TypeId)(x:Nat)(s:List (Nat×AV)):Tr gB:=
 match E.P.underlying t with
 | some (.slice q)=>match E.sh q with
  | some e=>
   if Io s=x&&xw 0 s&&K (0<x)&&K (x*e.size<=100000)&&(s.flatMap λp=>eC p.2).isEmpty then match Aj u e (s.map (·.2))with
    |some l=>.ok {val:=.vec n,nw:=[.vec e l]}
    |none=>.err
   else .err
  |none=>.err
 |_=>.err
def rA:AV->Option Int
 |.int _ k=>Y k
 |_=>Q2
def xj(P:Program)(t:TypeId)(x:AV)(u q v:Option AV):Tr gB:=
 match P.underlying t,x,v with
 | some .string,.str s,Q2=>
  match(match u with|none=>Y 0|some a=>rA a),(match q with|none=>Y (Io s:Int)|some a=>rA a)with
  |some l,Y h=>.chk (K (0<=l)&&K (l<=h)&&K (h<=Io s)) (ret (.str ((s.drop l.toNat).take (h.toNat-l.toNat))))
  |_,_=>.err
 | some (.slice p),.sl e s,Q2=>if gR P p=Q1 e.size then
   match(match u with|none=>Y 0|some a=>rA a),(match q with|none=>Y (Io s:Int)|some a=>rA a)with
   |some l,Y h=>.chk (K (0<=l)&&K (l<=h)&&K (h<=Io s)) (ret (.sl e ((s.drop l.toNat).take (h.toNat-l.toNat))))
   |_,_=>.err
  else .err
 | some (.slice p),.sl _ _,Y (.int _ 0)=>match u,q with
  |none,Y (.int _ 0)=>if(gR P p).isSome then ret .nils else .err
  |_,_=>.err
 | some (.slice p),.nils,Y (.int _ 0)=>match u,q with
  |none,Y (.int _ 0)=>if(gR P p).isSome then ret .nils else .err
  |_,_=>.err
 |_,_,_=>.err
def E5(P:Program)(hp:Nat->AO)(t:TypeId)(x:AV)(q p s:Option AV):Tr gB:=
 match x with
 | .vec id=>match hp id with
  |.vec e l=>(xj P t (.sl e l) q p s).bind λf=>.ok {val:=f.val,wr:=io hp [id]}
  |.frz e l=>xj P t (.sl e l) q p s
  |_=>.err
 |x=>xj P t x q p s
def Zx(P:Program)(q:Nat->AO)(t:TypeId)(x:AV):Tr gB:=
 match P.underlying t with
 | some .string=>match x with
  |.str s=>ret (.int .i64 (Io s))
  |_=>.err
 | some (.slice _)=>match x with
  |.nils=>ret (.int .i64 0)
  |.sl _ l=>ret (.int .i64 (Io l))
  | .vec id=>match q id with
   |.vec _ l=>ret (.int .i64 (Io l))
   |.frz _ l=>ret (.int .i64 (Io l))
   |_=>.err
  |_=>.err
 | some (.map _ _)=>match x with
  | .mp id=>match q id with
   |.vmap _ p=>.chk (K (Io p<=1073741824)) (ret (.int .i64 (Io p)))
   |_=>.err
  |_=>.err
 |_=>.err
def oQ(E:cy)(q:Nat->AO)(n:Nat)(p:TypeId)(b x:AV):Tr gB:=
 match E.sh p,b with
 | some e,.nils=>match vE q e x with
  |some l=>.chk (K (Io l<=1073741824)) (.ok {val:=.vec n,nw:=[.vec e l]})
  |none=>.err
 | some e,.vec id=>match q id with
  | .vec u t=>if h:u=e then match vE q e x with
    |some s=>.chk (K (Io t+Io s<=1073741824)) (.ok {val:=.vec n,wr:=[(id,.dead)],nw:=[.vec e ((h▸t:List (Sem e))++s)]})
    |none=>.err
   else .err
  |_=>.err
 |_,_=>.err
def T6(x:List (zN×AV))(s:zN)(z:Tr gB):Tr gB:=match x with
 |[]=>z
 |(k,v)::r=>.br (s==k) (ret v) (T6 r s z)
def Ll(x:List (zN×AV))(s:zN)(z:Tr gB):Tr gB:=match x with
 |[]=>z
 |(k,v)::r=>.br (s==k) (ret (.tup [v,.kb Z])) (Ll r s z)
def S0:AV->Option (Int×Int×zN)
 |.agg [.int .i64 a,.int .i64 b,.str s]=>Y (a,b,s)
 |_=>Q2
def zpf:Bool->AV->Option Int
 |false,.int .i64 n=>Y n
 |true,.agg []=>Y 0
 |_,_=>Q2
def qF(x:List ((Int×Int×zN)×Int))(k:Int×Int×zN):Bool:=x.any λp=>k==p.1
def iw(x:List ((Int×Int×zN)×Int))(k:Int×Int×zN):Int:=((x.find? λp=>k==p.1).map (·.2)).getD 0
def lN(es:List ((Int×Int×zN)×Int))(k:Int×Int×zN)(x:Int):List ((Int×Int×zN)×Int):=match es with
 |[]=>[(k,x)]
 |p::r=>bif k==p.1 then(k,x)::r else p::lN r k x
def kV(es:List ((Int×Int×zN)×Int))(k:Int×Int×zN):List ((Int×Int×zN)×Int):=bif qF es k then es else es++[(k,0)]
def mX(es:List ((Int×Int×zN)×Int))(k:Int×Int×zN):Nat:=match es with
 |[]=>0
 |p::r=>bif k==p.1 then 0 else mX r k+1
def lp(q:List ((Int×Int×zN)×Int))(n:Nat)(x:Int):List ((Int×Int×zN)×Int):=match q,n with
 |[],_=>[]
 |p::r,0=>(p.1,x)::r
 |p::r,n+1=>p::lp r n x
def Lb(P:Program)(t:TypeId):Bool:=match P.underlying t with
 |some (.int _)=>Z
 |_=>M
def RT(P:Program)(t:TypeId):Bool:=match P.underlying t with
 |some .string=>Z
 |_=>M
def ij(P:Program)(s:TypeId):Bool:=match P.underlying s with
 | some (.struct t) => !P.stoodInHeld s && !P.eqGuardType P.depth s&&(match t.toList with
  |[x,p,q]=>x.name !="_"&&x.offset==0&&Lb P x.type&&(p.name !="_"&&p.offset==1&&Lb P p.type)&&(q.name !="_"&&q.offset==2&&RT P q.type)
  |_=>M)
 |_=>M
def zaA(P:Program)(sh:TypeId->Option Sh)(t:TypeId):Option AO:=match P.underlying t with
 | some (.map x q)=>match P.underlying x with
  |some .string=>Y (.fmap [])
  | _=>if ij P x then match P.underlying q with
    |some (.int .i64)=>Y (.vmap M [])
    |some (.struct s)=>if s.size=0 then Y (.vmap Z [])else Q2
    |some (.slice p)=>(sh p).map λe=>.gmap e []
    |_=>Q2
   else Q2
 |_=>Q2
def xi(P:Program)(y:Nat->AO)(t:TypeId)(m k x:AV):Tr gB:=
 match P.underlying t with
 | some (.map z _)=>match P.underlying z with
  | some .string=>match m,k with
   | .mp id,.str s=>match y id with
    |.fmap q=>.chk (!(q.any λp=>p.1==s)) (.ok {val:=.tup [],wr:=[(id,.fmap (q++[(s,x)]))]})
    |_=>.err
   |_,_=>.err
  | some (.struct _)=>if ij P z then match m,S0 k with
    | .mp id,Q1 v=>match y id with
     | .vmap u q=>match zpf u x with
      |some n=>.ok {val:=.tup [],wr:=[(id,.vmap u (lN q v n))]}
      |none=>.err
     |_=>.err
    |_,_=>.err
   else .err
  |_=>.err
 |_=>.err
def xh(P:Program)(q:Nat->AO)(t:TypeId)(m k:AV):Tr gB:=
 match P.underlying t with
 | some (.map s p)=>if ij P s then match m,S0 k with
   | .mp id,Q1 v=>match q id with
    | .vmap M x=>match vu P p with
     |some (.int .i64 z)=>if z=0 then .chk (K (Io x<=1073741824)) (.ok {val:=.tup [.int .i64 (iw x v),.int .i64 (mX x v)],wr:=[(id,.vmap M (kV x v))]})else .err
     |_=>.err
    |_=>.err
   |_,_=>.err
  else .err
 |_=>.err
def pP(q:Nat->AO)(m s x:AV):Tr gB:=
 match m,s,x with
 | .mp id,.int .i64 n,.int .i64 y=>match q id with
  |.vmap M p=>.chk (zK n (Io p)) (.ok {val:=.tup [],wr:=[(id,.vmap M (lp p n.toNat y))]})
  |_=>.err
 |_,_,_=>.err
def zj1(P:Program)(x:TypeId):Tr gB:=match vu P x with
 |some z=>ret (.tup [z,.kb M])
 |none=>.err
def lE{e:Sh}(x:List ((Int×Int×zN)×List (Sem e)))(k:Int×Int×zN):List (Sem e):=match x with
 |[]=>[]
 |p::r=>bif k==p.1 then p.2 else lE r k
def nf{α:Type}(x:List ((Int×Int×zN)×α))(k:Int×Int×zN):List ((Int×Int×zN)×α):=match x with
 |[]=>[]
 |p::r=>bif k==p.1 then r else p::nf r k
def E3(P:Program)(p:Nat->AO)(t:TypeId)(m k:AV):Tr gB:=
 match P.underlying t with
 | some (.map q _)=>if ij P q then match m,S0 k with
   | .mp id,Y v=>match p id with
    |.gmap e x=>.ok {val:=.tup [],wr:=[(id,.gmap e (nf x v))]}
    |_=>.err
   |_,_=>.err
  else .err
 |_=>.err
def mu(P:Program)(y:Nat->AO)(t:TypeId)(x i:AV)(two:Bool):Tr gB:=
 match P.underlying t with
 | some (.map kt q)=>match P.underlying kt with
  | some .string=>match x,i with
   | .mp id,.str s=>match y id with
    |.fmap p=>if two then Ll p s (zj1 P q)else T6 p s (HX (vu P q))
    |_=>.err
   |_,_=>.err
  | some (.struct _)=>if ij P kt then match x,S0 i with
    | .mp id,Q1 v=>match y id with
     | .vmap u p=>match vu P q with
      |some (.int .i64 z)=>if u=M/\z=0 then ret (ite two (.tup [.int .i64 (iw p v),.bool (qF p v)]) (.int .i64 (iw p v)))else .err
      |some (.agg cs)=>if u=Z/\cs.isEmpty=Z then ret (ite two (.tup [.agg [],.bool (qF p v)]) (.agg []))else .err
      |_=>.err
     | .gmap e p=>match vu P q with
      |some .nils=>if two=M then ret (.sl e (lE p v))else .err
      |_=>.err
     |_=>.err
    |_,_=>.err
   else .err
  |_=>.err
 |_=>.err
def Zw(E:cy)(q:Operand->AV)(s:Nat->AO)(n:Nat)(c:Call):Tr gB:=
 match c.callee with
 | .value f=>match q f with
  | .clo (.func k) first caps=>match E.F k with
   |some F=>F (first++c.args.toList.map q++caps) s n
   |none=>.err
  |_=>.err
 | .builtin .len=>match c.args.toList.map q,c.argTypes.toList with
  |[x],[t]=>Zx E.P s t x
  |_,_=>.err
 | .builtin .append=>match c.args.toList.map q,c.argTypes.toList with
  | [b,x],[t,u]=>match E.P.underlying t,E.P.underlying u with
   |some (.slice p),Y (.slice _)=>oQ E s n p b x
   |_,_=>.err
  |_,_=>.err
 | .builtin .delete=>match c.args.toList.map q,c.argTypes.toList with
  |[m,k],[t,_]=>E3 E.P s t m k
  |_,_=>.err
 |_=>.err
def nT(l:List Int):zN:=l.map λn=>UInt8.ofNat n.toNat
def K0(P:Program)(x:TypeId):AV->Tr gB
 | .sl (.int .u8) l=>match P.underlying x with
  |some (.int .u8)=>ret (.str (nT l))
  |_=>.err
 |_=>.err
def rM(E:cy)(q:Operand->AV)(v:Nat->AO)(n:Nat)(o:Oper):Tr gB:=
 match o.op with
 |.move x|.assign x=>ret (q x)
 | .pick c a b=>match q c with
  |.kb Z=>ret (q a)
  |.kb M=>ret (q b)
  |.bool x=>HX (tH x (q a) (q b))
  |_=>.err
 | .box _ x=>match cellsOf (q x) with
  |some z=>.ok {val:=.ptr n 0,nw:=[.box z]}
  |none=>.err
 | .alloc t=>match zcG E.P t with
  |some z=>.ok {val:=.ptr n 0,nw:=[.box z]}
  |none=>.err
 |.load t a=>K5 E.P v t (q a)
 |.store t a x=>K6 E.P v t (q a) (q x)
 |.fieldAddr t x f=>K2 E.P t f (q x)
 | .field t x f=>match CZ E.P t f,q x with
  |some fd,.agg z=>HX (vg E.P fd.type z fd.offset)
  |_,_=>.err
 |.indexAddr t x i=>rL E.P v t (q x) (q i)
 |.index t x i=>K4 E.P t (q x) (q i)
 |.build t u=>HX (QY E.P t (u.toList.map λp=>(p.1,q p.2)))
 | .buildSlice t h0 u=>match E.own with
  |true=>vW E v n t h0 (u.toList.map λp=>(p.1,q p.2))
  |false=>pO E v t h0 (u.toList.map λp=>(p.1,q p.2))
 |.binOp op t x y _=>zms E.P op t (q x) (q y)
 | .unOp .not _ x=>match q x with
  |.bool b=>ret (.bool (!b))
  |.kb b=>ret (.kb (!b))
  |_=>.err
 | .unOp .neg _ x=>match q x with
  |.int k a=>ret (.int k (k.wrap (0-a)))
  |_=>.err
 | .convert h2 h1 x=>match E.P.underlying h2,E.P.underlying h1,q x with
  |some _,Y (.int k),.int _ a=>ret (.int k (k.wrap a))
  |some _,Y .string,.str s=>ret (.str s)
  |some (.slice el),Y .string,.sl e l=>K0 E.P el (.sl e l)
  |_,_,_=>.err
 |.slice t x lo hi mx=>E5 E.P v t (q x) (lo.map q) (hi.map q) (mx.map q)
 | .extract x i=>match q x with
  |.tup vs=>HX vs[i]?
  |_=>.err
 |.makeFunc fn first caps=>ret (.clo fn (first.toList.map q) (caps.toList.map q))
 | .nilCheck x=>match q x with
  |.ptr a b=>ret (.ptr a b)
  |.eptr a b=>ret (.eptr a b)
  |.vptr a b c d=>ret (.vptr a b c d)
  |.clo (.func f) a b=>ret (.clo (.func f) a b)
  |_=>.err
 |.call c=>Zw E q v n c
 | .makeMap t Q2=>match zaA E.P E.sh t with
  |some o=>.ok {val:=.mp n,nw:=[o]}
  |none=>.err
 |.insert t m k x=>xi E.P v t (q m) (q k) (q x)
 |.mapUpdate t m k x=>xi E.P v t (q m) (q k) (q x)
 |.lookup t x i two=>mu E.P v t (q x) (q i) two
 |.mapEntry t m k=>xh E.P v t (q m) (q k)
 |.entryStore _ m s x=>pP v (q m) (q s) (q x)
 |_=>.err
mutual
def AV.ids:AV->List Nat
 |.vec id|.ptr id _|.vptr id _ _ _|.mp id=>[id]
 |.eptr x _|.agg x|.tup x=>AV.idsL x
 |.clo _ a b=>AV.idsL a++AV.idsL b
 |_=>[]
def AV.idsL:List AV->List Nat
 |[]=>[]
 |v::r=>v.ids++AV.idsL r
end
mutual
def AV.ren(f:Nat->Nat):AV->AV
 |.vec id=>.vec (f id)
 |.ptr id o=>.ptr (f id) o
 |.vptr id sz i o=>.vptr (f id) sz i o
 |.mp id=>.mp (f id)
 |.eptr x o=>.eptr (AV.renL f x) o
 |.agg x=>.agg (AV.renL f x)
 |.tup x=>.tup (AV.renL f x)
 |.clo g a b=>.clo g (AV.renL f a) (AV.renL f b)
 |v=>v
def AV.renL(f:Nat->Nat):List AV->List AV
 |[]=>[]
 |v::r=>v.ren f::AV.renL f r
end
def AO.ids:AO->List Nat
 |.box x=>AV.idsL x
 |.fmap p=>AV.idsL (p.map (·.2))
 |_=>[]
def AO.ren(f:Nat->Nat):AO->AO
 |.box x=>.box (AV.renL f x)
 |.fmap q=>.fmap (q.map λp=>(p.1,p.2.ren f))
 |o=>o
def lD(x:Nat->AO):Nat->List Nat->List Nat->List Nat
 |0,_,s=>s
 |_+1,[],s=>s
 |n+1,i::r,s=>if s.contains i then lD x n r s else lD x n (r++(x i).ids) (s++[i])
def js:Op->Bool
 |.load ..|.store ..|.indexAddr ..|.buildSlice ..|.slice ..|.call _|.insert ..|.mapUpdate ..|.lookup ..|.mapEntry ..|.entryStore ..=>Z
 |_=>M
def vK:Op->Bool
 |.call _=>Z
 |_=>M
def xn(p:Nat->AO)(x:Operand->AV)(o:Oper):List Nat:=
 if vK o.op then lD p 400 (AV.idsL (o.op.operands.toList.map x)) []else if js o.op then AV.idsL (o.op.operands.toList.map x)else[]
def Oo(p:Nat->AO)(x:Operand->AV)(o:Oper):Bool:=
 !js o.op||(AV.idsL (o.op.operands.toList.map x)).all (λi=>(xn p x o).contains i)&&(!vK o.op||(xn p x o).all (λi=>(p i).ids.all λj=>(xn p x o).contains j))
structure Ih where
 fp:List Nat:=[]
 wr:List Nat:=[]
 base:Nat:=0
 nw:Nat:=0
structure RS where
 tmps:List AV
 heap:List AO
 known:List (Nat×Bool):=[]
 touched:Bool:=M
 log:List Ih:=[]
def RS.hp(s:RS)(id:Nat):AO:=s.heap.getD id .dead
def yY(E:cy)(tmps:List AV)(known:List (Nat×Bool)):Operand->AV
 | .tmp t=>match known.lookup t with
  |some b=>.kb b
  |none=>tmps.getD t .any
 |.const v=>Cw v
 |.global g=>E.gl g
 |.func f=>.clo (.func f) [] []
def pz(h:List AO):List (Nat×AO)->List AO
 |[]=>h
 |(i,o)::r=>pz (h.set i o) r
def ng(tmps:List AV)(x:Option Tmp)(v:AV):List AV:=match x with
 |some d=>tmps.set d v
 |none=>tmps
def vZ(known:List (Nat×Bool))(x:Option Tmp):List (Nat×Bool):=match x with
 |some d=>known.filter λp=>p.1!=d
 |none=>known
def HQ(E:cy)(o:Oper)(s:RS):Tr RS:=
  if Oo s.hp (yY E s.tmps s.known) o then
  (rM E (yY E s.tmps s.known) s.hp s.heap.length o).bind λf=>
    if f.wr.all (λp=>p.1<s.heap.length&&(xn s.hp (yY E s.tmps s.known) o).contains p.1)then
    .ok {tmps:=ng s.tmps o.dst f.val,heap:=pz s.heap f.wr++f.nw,known:=vZ s.known o.dst,
          touched:=s.touched||!(f.wr.isEmpty&&f.nw.isEmpty),
          log:=s.log++[{fp:=xn s.hp (yY E s.tmps s.known) o,wr:=f.wr.map (·.1),base:=s.heap.length,nw:=f.nw.length}]}
    else .err
  else .err
def ol(o:Oper)(s:RS):RS:=
 {s with tmps:=ng s.tmps o.dst (.tup []),known:=vZ s.known o.dst,log:=s.log++[{}]}
def wz(E:cy)(p:List Oper)(s:RS)(o:Oper):Tr RS:=
 match o.guard with
 |none=>HQ E o s
 | some (j,x)=>match (p[j]?).bind (·.dst) with
  |none=>.ok (ol o s)
  | some d=>match yY E s.tmps s.known (.tmp d) with
   |.kb b=>if b==x then HQ E o s else .ok (ol o s)
   |.tup _=>.ok (ol o s)
   | .bool b=>
    let y:RS:={s with known:=(d,Z)::s.known}
    let q:RS:={s with known:=(d,M)::s.known}
    .br b (ite x (HQ E o y) (.ok (ol o y))) (ite x (.ok (ol o q)) (HQ E o q))
   |_=>.err
def cu(E:cy)(ops:List Oper):List Oper->RS->Tr RS
 |[],s=>.ok s
 |o::r,s=>(wz E ops s o).bind (cu E ops r)
def V4(x:List Oper):List Nat:=x.filterMap (·.dst)
def dY(c:Bool):List Nat->List AV->List AV->List AV->List AV
 |[],p,_,_=>p
 |d::r,p,t,f=>dY c r (p.set d ((tH c (t.getD d .any) (f.getD d .any)).getD .any)) t f
def zeG:AV->AV->Bool
 |.clo (.func a) _ _,.clo (.func b) _ _=>a !=b
 |.clo _ _ _,.nilf=>Z
 |.nilf,.clo _ _ _=>Z
 |_,_=>M
def wX(x:List Nat)(l p:List AV):Bool:=x.any λd=>zeG (l.getD d .any) (p.getD d .any)
def CD(x:List Nat)(p:List AV):Tr RS->Option (Option Bool×List AV)
 |.err=>Q2
 |.ok s=>if s.touched then Q2 else Y (Q2,s.tmps)
 | .chk c t=>match CD x p t with
  |some (Q2,l)=>Y (Y c,l)
  |some (Y u,l)=>Y (Y (c&&u),l)
  |none=>Q2
 | .br c t f=>match CD x p t,CD x p f with
  |some (Q2,l),Y (Q2,q)=>if wX x l q then Q2 else Y (Q2,dY c x p l q)
  |some (Y a,l),Y (Q2,q)=>if wX x l q then Q2 else Y (Y (cond c a Z),dY c x p l q)
  |some (Q2,l),Y (Y b,q)=>if wX x l q then Q2 else Y (Y (cond c Z b),dY c x p l q)
  |some (Y a,l),Y (Y b,q)=>if wX x l q then Q2 else Y (Y (cond c a b),dY c x p l q)
  |_,_=>Q2
def zug{α:Type}:Tr α->Bool
 |.br ..=>Z
 |.chk _ t=>zug t
 |_=>M
def zd6:List Oper->List (List Nat)->List (List Nat)
 |[],x=>x
 |o::r,x=>zd6 r (x++[o.after.toList.flatMap λe=>if Region.binds .any e then e.on::x.getD e.on []else[]])
def fJ(x:List Oper)(o:Oper):List Nat:=
  (o.op.operands.toList.filterMap λ|.tmp t=>Y t|_=>Q2)++
  (match o.guard with
   |some (j,_)=>((x[j]?).bind (·.dst)).toList
   |none=>[])
def jr(a b:List Nat):Bool:=a.any λx=>b.contains x
def ii(r:Ih)(x:Nat):Bool:=K (r.base<=x)&&K (x<r.base+r.nw)
def wW(x:List Oper)(p q:Oper)(ri rj:Ih):Bool:=
 jr p.dst.toList (fJ x q)||jr p.dst.toList q.dst.toList||jr (fJ x p) q.dst.toList||
 jr ri.wr rj.fp||jr ri.fp rj.wr||rj.fp.any (ii ri)||ri.fp.any (ii rj)
def dZ(r:Ih)(id:Nat):Bool:=r.wr.contains id||ii r id
def zb8(x:List Oper)(s:List Ih)(v:List (List Nat))(i j:Nat)(p q:Oper)(t u:Ih):Bool:=
 match p.op,q.op,t.fp,u.wr with
 | .lookup _ _ _ Q4,.mapEntry _ _ _,[a],[b]=>b==a&&t.wr.isEmpty&&t.nw==0&&u.nw==0&&
  !(jr p.dst.toList (fJ x q)||jr p.dst.toList q.dst.toList||jr (fJ x p) q.dst.toList)&&
  (List.range (Io x)).all λl=>match s[l]? with
   |some y=>!dZ y a||K (l<i)||l==j||(K (j<l)&&(v.getD l []).contains i)
   |none=>M
 |_,_,_,_=>M
def xG(x:List Oper)(q:List Ih):Bool:=
 let s:=zd6 x []
 (x.zipIdx.all λp=>p.1.after.toList.all λe=>!Region.binds .any e||K (e.on<p.2))&&
 (List.range (Io x)).all λj=>(List.range j).all λi=>
  match x[i]?,x[j]?,q[i]?,q[j]? with
  |some t,Y u,Y v,Y y=>!wW x t u v y||(s.getD j []).contains i||zb8 x q s i j t u v y
  |_,_,_,_=>M
def checked(x:List Oper):Tr RS->Tr RS
 |.err=>.err
 |.chk c t=>.chk c (checked x t)
 |.br c t f=>.br c (checked x t) (checked x f)
 |.ok s=>if xG x s.log then .ok s else .err
def RS.out(s:RS):St:={tmps:=s.tmps,heap:=s.heap}
def jZ(E:cy)(ops:List Oper)(draw:Bool)(x:St):Tr St:=
 let t0:=cu E ops ops {tmps:=x.tmps,heap:=x.heap}
 let t:=if draw then checked ops t0 else t0
 if zug t then match CD (V4 ops) x.tmps t with
  |some (Q2,l)=>.ok {x with tmps:=l}
  |some (Y c,l)=>.chk c (.ok {x with tmps:=l})
  |none=>t.bind λs=>.ok s.out
 else t.bind λs=>.ok s.out
inductive zU where
 |head (key:Nat) (k:List Item) (st:St)
 |ret (v:AV) (heap:List AO)
 |fork (c:Bool) (k1 k2:List Item) (st:St)
def Lq:Code->Code->Option (Nat×Nat×Nat×TypeId×Code×Code)
 | .region _ ops Q4,.cond (.tmp d') a b=>match ops.toList with
  | [o1,o2]=>match o1.dst,o1.op,o1.guard,o2.dst,o2.op,o2.guard with
   |some x,.move (.tmp s),Q2,Y d,.binOp .eql t (.tmp p) (.const (.slice Q2 0 0)) _,Q2=>if p=x/\d'=d/\x≠d then Y (s,x,d,t,a,b)else Q2
   |_,_,_,_,_,_=>Q2
  |_=>Q2
 |_,_=>Q2
def KS(x:Nat->AO):AV->Option Bool
 |.nils=>Y Z
 |.sl _ l=>Y l.isEmpty
 | .vec id=>match x id with
  |.vec _ l=>Y l.isEmpty
  |.frz _ l=>Y l.isEmpty
  |_=>Q2
 |_=>Q2
def RR(P:Program)(t:TypeId):Bool:=match P.underlying t with
 |some (.slice _)=>Z
 |_=>M
def HV(keep:List Nat):Nat->List AV->List AV
 |_,[]=>[]
 |i,v::r=>(ite (keep.contains i) v (.any))::HV keep (i+1) r
def xJ(x:St):Nat×Option Nat×Sh->St
 | (s,Q2,e)=>match x.tmps.getD s .any with
  |.nils=>{tmps:=x.tmps.set s (.vec x.heap.length),heap:=x.heap++[.vec e []]}
  |_=>x
 | (s,some c,e)=>match x.tmps.getD s .any with
  | .ptr id 0=>match x.hp id with
   | .box p=>match p.getD c .any with
    |.nils=>{tmps:=x.tmps,heap:=x.heap.set id (.box (p.set c (.vec x.heap.length)))++[.vec e []]}
    |_=>x
   |_=>x
  |_=>x
def Kf(x:St):Nat×Nat->St
 | (s,c)=>match x.tmps.getD s .any with
  | .ptr id 0=>match x.hp id with
   | .box p=>match p.getD c .any with
    | .vec k=>match Fh (x.hp k) with
     |.frz e l=>{tmps:=x.tmps,heap:=(x.heap.set k (.frz e l)).set id (.box (p.set c (.sl e l)))}
     |_=>x
    |_=>x
   |_=>x
  |_=>x
structure aY where
 slots:List Nat:=[]
 prom:List (Nat×Option Nat×Sh):=[]
 unroll:Bool:=M
 sett:List (Nat×Nat):=[]
 cut:Bool:=M
def Ub:List Nat->Bool
 |[]=>Z
 |i::r=>!r.contains i&&Ub r
def lO(hp:Nat->AO)(n0:Nat)(p x:List Nat):Bool:=
 p.all (λi=>x.contains i)&&x.all (λi=>(hp i).ids.all λj=>x.contains j)&&Ub x&&x.take n0==List.range n0
def zjT(n0:Nat)(s:St):Option St:=
 let x:=lD s.hp 400 (List.range n0++AV.idsL s.tmps) []
 if lO s.hp n0 (AV.idsL s.tmps) x then
  Y {tmps:=AV.renL (λi=>x.idxOf i) s.tmps,heap:=x.map λi=>(s.hp i).ren λi=>x.idxOf i}
 else Q2
def zoh(n0:Nat)(k:aY)(s:St):Option St:=
 zjT n0 (k.prom.foldl xJ {s with tmps:=HV k.slots 0 s.tmps})
def mz(n0:Nat)(k:aY)(x:Nat)(t:List Item)(p:St):Tr zU:=
 match zoh n0 k p with
 |some s=>.ok (.head x t s)
 |none=>.err
def fj:Code->Nat
 |.region id _ _=>id
 |.seq a _=>fj a
 |.block _ c=>fj c
 |.loop c=>fj c
 |.scope c=>fj c
 |_=>0
def Ms(E:cy)(s:St):ResultVar->Option AV
 |.tmp t=>Y (s.tmps.getD t .any)
 | .cell a t=>match s.tmps.getD a .any with
  | .ptr id off=>match s.hp id with
   |.box x=>vg E.P t x off
   |_=>Q2
  |_=>Q2
def yv(E:cy)(s:St):List ResultVar->Option (List AV)
 |[]=>Y []
 | r::rs=>match Ms E s r,yv E s rs with
  |some v,Y x=>Y (v::x)
  |_,_=>Q2
def Ly:List AV->AV
 |[v]=>v
 |vs=>.tup vs
def yu(E:cy)(n0:Nat)(p:List ResultVar)(s:St):Tr zU:=
 match yv E s p with
 | some q=>
  let v:AV:=Ly q
  let x:=lD s.hp 400 (List.range n0++v.ids) []
  if lO s.hp n0 v.ids x then .ok (.ret (v.ren λi=>x.idxOf i) (x.map λi=>(s.hp i).ren λi=>x.idxOf i))else .err
 |none=>.err
def CV(s:St)(c:Operand)(b:Bool):St:=match c with
 |.tmp t=>{s with tmps:=s.tmps.set t (.kb b)}
 |_=>s
def run(E:cy)(n0:Nat)(keep:Nat->aY)(q:List ResultVar):Nat->List Item->St->Tr zU
 |0,_,_=>.err
 | n + 1,v,p=>match v with
  |[]=>yu E n0 q ((keep 1000000).sett.foldl Kf ((keep 1000000).prom.foldl xJ p))
  |.inBlock _::k=>run E n0 keep q n k p
  |.inLoop c::k=>if(keep (fj c)).unroll then run E n0 keep q n (.code c::.inLoop c::k) p else mz n0 (keep (fj c)) (fj c) (.code c::.inLoop c::k) p
  | .code c::k=>match c with
   |.skip=>run E n0 keep q n k p
   |.label _=>run E n0 keep q n k p
   | .seq a b=>match Lq a b with
    | some (s,x,d,t,z,y)=>match KS p.hp (p.tmps.getD s .any) with
     |some c=>if RR E.P t&&(K (d<p.tmps.length)&&K (x<p.tmps.length))then .ok (.fork c (.code z::k) (.code y::k) {p with tmps:=(p.tmps.set x (p.tmps.getD s .any)).set d .any})else .err
     |none=>.err
    |none=>run E n0 keep q n (.code a::.code b::k) p
   | .cond c a b=>match yY E p.tmps [] c with
    |.kb Z=>run E n0 keep q n (.code a::k) p
    |.kb M=>run E n0 keep q n (.code b::k) p
    |.bool x=>.br x (run E n0 keep q n (.code a::k) (CV p c Z)) (run E n0 keep q n (.code b::k) (CV p c M))
    |_=>.err
   |.block id c=>run E n0 keep q n (.code c::.inBlock id::k) p
   |.loop c=>if(keep (fj c)).unroll then run E n0 keep q n (.code c::.inLoop c::k) p else mz n0 (keep (fj c)) (fj c) (.code c::.inLoop c::k) p
   | .exit id=>match exitTo id k with
    |some k'=>run E n0 keep q n k' p
    |none=>.err
   |.ret=>yu E n0 q ((keep 1000000).sett.foldl Kf ((keep 1000000).prom.foldl xJ p))
   |.region id ops draw=>(jZ E ops.toList draw p).bind λu=>if(keep (id+500000)).cut then mz n0 (keep (id+500000)) (id+500000) k u else run E n0 keep q n k u
   |_=>.err
  |_=>.err
def bl(n:Nat)(x:List AV)(heap:List AO):St:={tmps:=x++List.replicate (n-Io x) (.tup []),heap}
def tm(n:Nat)(l:List (Nat×AV)):List AV:=l.foldl (λa p=>a.set p.1 p.2) (List.replicate n .any)
open Tr (chk br)
open AV (nils agg tup ptr kb str sl)
def dw(k:IntKind)(n:Int):Prop:=k.min<=n/\n<=k.max
def aF:Nat:=9223372036854775807
theorem um{p:Prop}(h:p:=by unfold aF;omega):p:=h
inductive Rv (w:World) (U:Nat->Prop) (ρ:Nat->Option Value):AV->Value->Prop
 |any (v:Value):Rv w U ρ .any v
 |kb (b:Bool):Rv w U ρ (.kb b) (.bool b)
 |bool (b:Bool):Rv w U ρ (.bool b) (.bool b)
 |int (k:IntKind) (n:Int) (h:dw k n):Rv w U ρ (.int k n) (.int k n)
 |str (s:zN) (h:Io s<=aF):Rv w U ρ (.str s) (.string ⟨s.toArray⟩)
 |nils (a:Option Addr):Rv w U ρ .nils (.slice a 0 0)
 |sl0 (e:Sh) (a:Option Addr) (c:Nat):Rv w U ρ (.sl e []) (.slice a 0 c)
 | sl (e:Sh) (l:List (Sem e)) (b o c:Nat) (vals:Nat→Nat→Value) (hc:Io l≤c) (hm:Io l≤aF) (hb:b < w.heap.size) (hU:¬ U b)
   (hcell:∀i j,i<Io l->j<e.size->w.cell? ⟨b,o+i*e.size+j,Q2⟩=Q1 (vals i j))
   (hr:∀i(hi:i<Io l)(j:Nat)(c:AV),(zF e l[i])[j]?=Q1 c->Rv w U ρ c (vals i j)):
   Rv w U ρ (.sl e l) (.slice (Q1 ⟨b,o,Q2⟩) (Io l) c)
 |vec (id:Nat) (v:Value) (h:ρ id=Q1 v) (h1:v.oneCell'=Q3):Rv w U ρ (.vec id) v
 |ptr (id off b:Nat) (h:ρ id=Q1 (.pointer (Q1 ⟨b,0,Q2⟩))):Rv w U ρ (.ptr id off) (.pointer (Q1 ⟨b,off,Q2⟩))
 |vptr (id sz i off b n c:Nat) (h:ρ id=Q1 (.slice (Q1 ⟨b,0,Q2⟩) n c)):Rv w U ρ (.vptr id sz i off) (.pointer (Q1 ⟨b,i*sz+off,Q2⟩))
 | eptr (cs:List AV) (off b o:Nat) (vals:Nat→Value) (hb:b < w.heap.size) (hU:¬ U b)
   (hcell:∀j,j<Io cs->w.cell? ⟨b,o+j,Q2⟩=Q1 (vals j)) (h1:∀j,j<Io cs->(vals j).oneCell'=Q3)
   (hr:∀(j:Nat)(c:AV),cs[j]?=Q1 c->Rv w U ρ c (vals j)):Rv w U ρ (.eptr cs off) (.pointer (Q1 ⟨b,o+off,Q2⟩))
 |nilp:Rv w U ρ .nilp (.pointer Q2)
 | agg (cs:List AV) (vs:List Value) (hl:Io cs=Io vs) (h1:∀ v∈vs,v.oneCell'=Q3)
   (hr:∀(j:Nat)(c:AV)(v:Value),cs[j]?=Q1 c->vs[j]?=Q1 v->Rv w U ρ c v):Rv w U ρ (.agg cs) (.agg vs.toArray)
 | tup (cs:List AV) (vs:List Value) (hl:Io cs=Io vs)
   (hr:∀(j:Nat)(c:AV)(v:Value),cs[j]?=Q1 c->vs[j]?=Q1 v->Rv w U ρ c v):Rv w U ρ (.tup cs) (.tuple vs.toArray)
 | clo (fn:Fn) (fs cs:List AV) (vf vc:List Value) (hf:Io fs=Io vf) (hc:Io cs=Io vc)
   (hrf:∀(j:Nat)(c:AV)(v:Value),fs[j]?=Q1 c->vf[j]?=Q1 v->Rv w U ρ c v) (hrc:∀(j:Nat)(c:AV)(v:Value),cs[j]?=Q1 c->vc[j]?=Q1 v->Rv w U ρ c v):
   Rv w U ρ (.clo fn fs cs) (.func fn vf.toArray vc.toArray)
 |nilf:Rv w U ρ .nilf .nilFunc
 |mp (id:Nat) (v:Value) (h:ρ id=Q1 v) (h1:v.oneCell'=Q3):Rv w U ρ (.mp id) v
 |ifcN:Rv w U ρ (.ifc Q3) .nilIface
 |ifcS (t:TypeId) (v:Value):Rv w U ρ (.ifc Q4) (.iface t v)
 |tab (k:IntKind) (zs:List Int) (b:Nat) (T:TypeId) (fr:Nat×Nat) (hb:w.heap[b]?=Q1 (.cells (zs.map λz=>Value.int k z).toArray T fr)) (hU:¬U b):Rv w U ρ (.tab k zs) (.pointer (Q1 ⟨b,0,Q2⟩))
 |gint (m:Int) (b:Nat) (T:TypeId) (fr:Nat×Nat) (hm:dw .i64 m) (hb:w.heap[b]?=Q1 (.cells #[Value.int .i64 m] T fr)) (hU:¬U b):Rv w U ρ .gint (.pointer (Q1 ⟨b,0,Q2⟩))
structure dn (w:World) (U:Nat->Prop) (ρ:Nat->Option Value) (cs:List AV) (vs:List Value):Prop where
 len:Io cs=Io vs
 rv:∀(j:Nat)(c:AV)(v:Value),cs[j]?=Y c->vs[j]?=Y v->Rv w U ρ c v
theorem wT{w:World}{b o:Nat}{v:Value}(h:w.cell? ⟨b,o,Q2⟩=Y v):b<w.heap.size:=by unfold World.cell? at h;grind
variable {w':World}{U U':Nat->Prop}{ρ ρ':Nat->Option Value}{c:AV}
theorem Rv.mono{w:World}(hs:w.heap.size<=w'.heap.size)
  (hk:∀b,b<w.heap.size->¬U b->w'.heap[b]?=w.heap[b]?) (hu:∀b,b<w.heap.size->U' b->U b) (hρ:∀id v,ρ id=Y v->ρ' id=Y v)
   {v:Value} (h:Rv w U ρ c v):Rv w' U' ρ' c v:=by
 have u:∀b o v,¬U b->w.cell? ⟨b,o,Q2⟩=Y v->w'.cell? ⟨b,o,Q2⟩=Y v:=by
  intro b o v p hc;rw[World.cell?_of_block (hk b (wT hc) p)];exact hc
 induction h with
 |any v=>exact .any v
 |kb b=>exact .kb b
 |bool b=>exact .bool b
 |int k n h=>exact .int k n h
 |str s h=>exact .str s h
 |nils a=>exact .nils a
 |sl0 e a c=>exact .sl0 e a c
 | sl e l b o c h0 hc hm p q h2 hr ih=>
  exact .sl e l b o c h0 hc hm (ie p hs) (λh=>q (hu b p h)) (λi j hi hj=>u _ _ _ q (h2 i j hi hj)) ih
 |vec id v h h1=>exact .vec id v (hρ _ _ h) h1
 |ptr id z b h=>exact .ptr id z b (hρ _ _ h)
 |vptr id sz i z b n c h=>exact .vptr id sz i z b n c (hρ _ _ h)
 | eptr cs z b o h0 p q h2 h1 hr ih=>
  exact .eptr cs z b o h0 (ie p hs) (λh=>q (hu b p h)) (λj hj=>u _ _ _ q (h2 j hj)) h1 ih
 |nilp=>exact .nilp
 |agg cs vs hl h1 hr ih=>exact .agg cs vs hl h1 ih
 |tup cs vs hl hr ih=>exact .tup cs vs hl ih
 |clo fn fs cs vf vc hf hc h6 h5 h4 h3=>exact .clo fn fs cs vf vc hf hc h4 h3
 |nilf=>exact .nilf
 |mp id v h h1=>exact .mp id v (hρ _ _ h) h1
 |ifcN=>exact .ifcN
 |ifcS t v=>exact .ifcS t v
 | tab k zs b x fr p q=>
  have y:b<w.heap.size:=(mZ.1 p).1;exact .tab k zs b x fr (by rw[hk b y q];exact p) (λh=>q (hu b y h))
 | gint m b x fr hm p q=>
  have y:b<w.heap.size:=(mZ.1 p).1;exact .gint m b x fr hm (by rw[hk b y q];exact p) (λh=>q (hu b y h))
theorem dn.mono{w:World}{x:Nat->Prop}(u:w.heap.size<=w'.heap.size)
  (t:∀b,b<w.heap.size->¬U b->w'.heap[b]?=w.heap[b]?) (y:∀b,b<w.heap.size->x b->U b) (hρ:∀id v,ρ id=Y v->ρ' id=Y v)
  {p:List AV} {s:List Value} (h:dn w U ρ p s):dn w' x ρ' p s:=
 ⟨h.len,λj c v q z=>(h.rv j c v q z).mono u t y hρ⟩
theorem Rv.weak{w:World}(x:∀b,U' b->U b){v:Value}(h:Rv w U ρ c v):Rv w U' ρ c v:=
 h.mono (zR _) (λ_ _ _=>rfl) (λb _=>x b) (λ_ _ h=>h)
def AO.owns:AO->Bool
 |.box _|.vec _ _|.fmap _|.vmap _ _|.gmap _ _=>Z
 |_=>M
def cf:Value->Option Nat
 |.pointer (Y a)=>Y a.block
 |.slice (Y a) _ c=>if c=0 then Q2 else Y a.block
 |.map (Y r)=>Y r
 |_=>Q2
def ar(ρ:Nat->Option Value)(id:Nat)(o:AO)(b:Nat):Prop:=o.owns=Z/\∃v,ρ id=Y v/\cf v=Y b
def cR(k:Int×Int×zN):Value:=.agg #[.int .i64 k.1,.int .i64 k.2.1,.string ⟨k.q.toArray⟩]
def eV(k:Int×Int×zN):Prop:=dw .i64 k.1/\dw .i64 k.2.1/\Io k.q<=aF
def nj(x:Array MapEntry)(p:Nat):Prop:=p=x.size/\∀(i:Nat)(e:MapEntry),x[i]?=Y e->e.born=i
def w9(u:Bool)(n:Int):Value:=bif u then .agg #[]else .int .i64 n
def bz(w:World)(U:Nat->Prop)(ρ:Nat->Option Value)(id:Nat):AO->Prop
 |.dead=>True
 |.box cs=>∃b x vals,ρ id=Y (.pointer (Y ⟨b,0,Q2⟩))/\U b/\w.heap[b]?=Y (.cells vals x (0,0))/\dn w U ρ cs vals.toList/\∀v∈vals.toList,v.oneCell'=Z
 | .vec e l=>∃ a c,ρ id=Q1 (.slice a (Io l) c)∧Io l≤aF∧((l=[]∧c=0)∨∃ b x y,a=Q1 ⟨b,0,Q2⟩∧0 < c∧U b∧w.heap[b]?=Q1 (.cells y x (0,0))∧
   y.size=c*e.size/\Io l<=c/\∀i(hi:i<Io l)(j:Nat)(c:AV),(zF e l[i])[j]?=Y c->∃v,y[i*e.size+j]?=Y v/\Rv w U ρ c v)
 |.frz e l=>∃v,ρ id=Y v/\Rv w U ρ (.sl e l) v
 | .fmap t=>∃ r q s,ρ id=Q1 (.map (Q1 r))∧U r∧w.heap[r]?=Q1 (.map q s)∧dn w U ρ (t.map (·.2)) (q.toList.map (·.val))∧
   q.toList.map (·.key)=t.map λp=>Value.string ⟨p.1.toArray⟩
 | .vmap u t=>∃ r q s,ρ id=Q1 (.map (Q1 r))∧U r∧w.heap[r]?=Q1 (.map q s)∧(q.toList.map fun e=>(e.key,e.val))=(t.map fun p=>(cR p.1,w9 u p.2))∧
   (∀p∈t,dw .i64 p.2/\eV p.1)/\nj q s
 | .gmap e t=>∃ (r:Nat) (q:Array MapEntry) (s:Nat) (z:List ((Int×Int×zN)×Value)),ρ id=Q1 (.map (Q1 r))∧U r∧w.heap[r]?=Q1 (.map q s)∧dn w U ρ (t.map fun p=>sl e p.2) (z.map (·.2))∧
   (q.toList.map λe=>(e.key,e.val))=(z.map λp=>(cR p.1,p.2))/\z.map (·.1)=t.map (·.1)/\∀p∈z,eV p.1
theorem bz.mono{w:World}(hs:w.heap.size<=w'.heap.size)
  (hk:∀b,b<w.heap.size->¬U b->w'.heap[b]?=w.heap[b]?) (hu:∀b,b<w.heap.size->U' b->U b) (z:∀id v,ρ id=Y v->ρ' id=Y v)
  {id:Nat} {o:AO} (h:bz w U ρ id o) (s:∀b,ar ρ id o b->w'.heap[b]?=w.heap[b]?/\U' b):bz w' U' ρ' id o:=by
 cases o with
 |dead=>trivial
 | box cs=>
  have⟨b,x,h0,t,h2,y,h4,h5⟩:=h;have:=s b ⟨rfl,_,t,rfl⟩;exact⟨b,x,h0,z _ _ t,this.2,by rw[this.1];exact y,h4.mono hs hk hu z,h5⟩
 | vec e l=>
  have⟨a,c,t,h2,y⟩:=h;refine⟨a,c,z _ _ t,h2,?_⟩;rcases y with y|⟨b,x,h6,rfl,hc,hU,hb,h9,h7,hr⟩
  .exact .inl y
  .have:=s b ⟨rfl,_,t,by simp[cf];omega⟩;refine .inr ⟨b,x,h6,rfl,hc,this.2,by rw[this.1];exact hb,h9,h7,λi hi j c hx=>?_⟩;have⟨v,hv,h8⟩:=hr i hi j c hx;exact⟨v,hv,h8.mono hs hk hu z⟩
 | frz e l=>
  have⟨v,t,h2⟩:=h;exact⟨v,z _ _ t,h2.mono hs hk hu z⟩
 | fmap es=>
  have⟨r,q,p,t,h2,y,h4,h5⟩:=h;have:=s r ⟨rfl,_,t,rfl⟩;exact⟨r,q,p,z _ _ t,this.2,by rw[this.1];exact y,h4.mono hs hk hu z,h5⟩
 | vmap u es=>
  have⟨r,q,p,t,h2,y,h4,h5⟩:=h;have:=s r ⟨rfl,_,t,rfl⟩;exact⟨r,q,p,z _ _ t,this.2,by rw[this.1];exact y,h4,h5⟩
 | gmap e es=>
  have⟨r,q,p,gs,t,h2,y,h4,h5⟩:=h;have:=s r ⟨rfl,_,t,rfl⟩;exact⟨r,q,p,gs,z _ _ t,this.2,by rw[this.1];exact y,h4.mono hs hk hu z,h5⟩
theorem bz.inU{w:World}{id:Nat}{o:AO}(h:bz w U ρ id o){b:Nat}(hb:ar ρ id o b):U b/\b<w.heap.size:=by
 have⟨ho,v,s,p⟩:=hb;cases o with
 |dead=>simp[AO.owns]at ho
 |frz e l=>simp[AO.owns]at ho
 | box cs=>
  have⟨b',x,h0,t,h2,z,h4,h5⟩:=h;rw[t]at s;cases s;simp[cf]at p;grind
 | vec e l=>
  have⟨a,c,t,h2,z⟩:=h;rw[t]at s;cases s;rcases z with⟨_,rfl⟩|⟨b',x,h6,rfl,hc,hU,h7,_⟩
  .cases a<;>simp[cf]at p
  .simp[cf]at p;grind
 | fmap es=>
  have⟨r,y,q,t,h2,z,h4,h5⟩:=h;rw[t]at s;cases s;simp[cf]at p;grind
 | vmap u es=>
  have⟨r,y,q,t,h2,z,h4,h5⟩:=h;rw[t]at s;cases s;simp[cf]at p;grind
 | gmap e es=>
  have⟨r,y,q,gs,t,h2,z,h4,h5⟩:=h;rw[t]at s;cases s;simp[cf]at p;grind
theorem au:∀(s:Sh)(x:Sem s),(zF s x).length=s.size
 |.unit,_=>rfl
 |.bool,_=>rfl
 |.int _,_=>rfl
 |.str,_=>rfl
 |.sl _,_=>rfl
 |.pr a b,x=>by simp[zF,Sh.size,au a,au b]
 |.expr,_=>rfl
theorem wM{w:World}{hp:Nat->AO}{e:Sh}{l:List (Sem e)}{v:Value}
  (h:vE hp e c=Y l) (hr:Rv w U ρ c v) (hu:∀b,U' b->U b)
  (h6:∀id∈du c,bz w U ρ id (hp id)) (h7:∀id∈du c,∀b,ar ρ id (hp id) b->¬U' b):Rv w U' ρ (.sl e l) v:=by
 cases c<;>simp[vE]at h
 case nils=>
  subst h;cases hr;exact .sl0 e _ _
 case sl q l'=>
  obtain⟨rfl,h⟩:=h;subst h;exact hr.weak hu
 case vec id=>
  cases hr with
  |vec _ _ hv _=>
  have h1:=h6 id (by simp[du]);have h2:=h7 id (by simp[du]);cases s:hp id with
  |dead=>simp[s]at h
  |box cs=>simp[s]at h
  |fmap es=>simp[s]at h
  |vmap u es=>simp[s]at h
  |gmap e es=>simp[s]at h
  | frz q l'=>
   simp[s]at h;obtain⟨rfl,h⟩:=h;subst h;rw[s]at h1;have⟨v',p,t⟩:=h1;rw[hv]at p;cases p;exact t.weak hu
  | vec q l'=>
   simp[s]at h;obtain⟨rfl,h⟩:=h;subst h;rw[s]at h1 h2;have⟨a,c,p,hm,h3⟩:=h1;rw[hv]at p;cases p;rcases h3 with⟨hl,hc⟩|⟨b,x,y,rfl,hc,hU,hb,h9,h0,h8⟩
   .show Rv w U' ρ (.sl q l') _;subst hl;exact .sl0 q _ _
   .show Rv w U' ρ (.sl q l') _;have h5:¬U' b:=h2 b ⟨rfl,_,hv,by simp[cf];omega⟩;have z:=(mZ.1 hb).1;refine .sl q l' b 0 c (λi j=>(y[i*q.size+j]?).getD undef) h0 hm z h5 (λi j hi hj=>?_) (λi hi j cc hx=>?_)
    .have h4:i*q.size+j<y.size:=by
      rw[h9];have:(i+1)*q.size<=c*q.size:=fM _ ow;rw[jP]at this;omega
     simp[World.cell?,hb,uD h4]
    .have⟨v,x0,t⟩:=h8 i hi j cc hx;simp[x0];exact t.weak hu
theorem pV{w:World}{hp:Nat->AO}(hu:∀b,U' b->U b):
  ∀(s:Sh)(u:List AV)(x:Sem s)(r:List AV)(p:Nat->Value),dD hp s u=Y (x,r)->
   (∀(j:Nat)(c:AV),u[j]?=Y c->Rv w U ρ c (p j))->(∀id∈u.flatMap du,bz w U ρ id (hp id)/\∀b,ar ρ id (hp id) b->¬U' b)->
   u.length=s.size+Io r/\r=u.drop s.size/\∀(j:Nat)(c:AV),(zF s x)[j]?=Y c->Rv w U' ρ c (p j):=by
 intro s
 induction s with
 | unit=>
  intro u x r p h z t;simp[dD]at h;subst h;refine⟨by simp[Sh.size],by simp[Sh.size],by simp[zF]⟩
 | bool=>
  intro u x r p h z t;cases u with
  |nil=>simp[dD]at h
  | cons c u=>
   cases c<;>simp[dD]at h<;>(obtain⟨rfl,rfl⟩:=h)<;>refine⟨by simp[Sh.size];omega,by simp[Sh.size],?_⟩
   all_goals
    intro j c q;cases j with
    |succ j=>simp[zF]at q
    | zero=>
     simp[zF]at q;subst q;have:=z 0 _ rfl;generalize p 0=v at this;cases this;exact .bool _
 | int k=>
  intro u x r p h z t;cases u with
  |nil=>simp[dD]at h
  | cons c u=>
   cases c<;>simp[dD]at h
   obtain⟨rfl,rfl,rfl⟩:=h;refine⟨by simp[Sh.size];omega,by simp[Sh.size],?_⟩;intro j c q;cases j with
   |succ j=>simp[zF]at q
   | zero=>
    simp[zF]at q;subst q;exact(z 0 _ rfl).weak hu
 | str=>
  intro u x r p h z t;cases u with
  |nil=>simp[dD]at h
  | cons c u=>
   cases c<;>simp[dD]at h
   obtain⟨rfl,rfl⟩:=h;refine⟨by simp[Sh.size];omega,by simp[Sh.size],?_⟩;intro j c q;cases j with
   |succ j=>simp[zF]at q
   | zero=>
    simp[zF]at q;subst q;exact(z 0 _ rfl).weak hu
 | sl e ih=>
  intro u x r p h z t;cases u with
  |nil=>simp[dD]at h
  | cons c u=>
   simp only[dD]at h;split at h
   .rename_i l hl;cases h;refine⟨by simp[Sh.size];omega,by simp[Sh.size],?_⟩;intro j c q;cases j with
    |succ j=>simp[zF]at q
    | zero=>
     simp[zF]at q;subst q;exact wM hl (z 0 _ rfl) hu (λid y=>(t id (by simp[y])).1) (λid y=>(t id (by simp[y])).2)
   .cases h
 | pr a b h3 h4=>
  intro u x r p h z t;simp only[dD]at h;split at h
  .rename_i x1 r1 h1;split at h
   .rename_i x2 r2 h2;cases h;have⟨l1,e1,g1⟩:=h3 u x1 r1 p h1 z t;subst e1;have⟨l2,e2,g2⟩:=h4 _ x2 r (λj=>p (a.size+j)) h2 (λj c q=>by
      grind)
     (λid y=>t id (by
      grind))
    refine⟨?_,?_,?_⟩
    .simp[Sh.size]at*;omega
    .rw[e2,List.drop_drop];simp[Sh.size]
    .intro j c q;simp only[zF]at q;by_cases h0:j<a.size
     .rw[rz (by rw[au];exact h0)]at q;exact g1 j c q
     .rw[pE (by rw[au];omega),au]at q;grind
   .cases h
  .cases h
 | expr=>
  intro u x r p h z t;simp only[dD]at h;unfold xv at h;split at h<;>try (cases h;done)
  rename_i op k i vs s c r';split at h
  .rename_i l hl;cases h;refine⟨by simp[Sh.size];omega,by simp[Sh.size],?_⟩;intro j c' q
   match j with
   |0=>simp[zF,zg.op]at q;subst q;exact(z 0 _ rfl).weak hu
   |1=>simp[zF,zg.v]at q;subst q;exact(z 1 _ rfl).weak hu
   |2=>simp[zF,zg.v]at q;subst q;exact(z 2 _ rfl).weak hu
   |3=>simp[zF,zg.v]at q;subst q;exact(z 3 _ rfl).weak hu
   |4=>simp[zF,zg.s]at q;subst q;exact(z 4 _ rfl).weak hu
   | 5=>
    simp[zF,zg.l]at q;subst q;exact wM hl (z 5 _ rfl) hu (λid y=>(t id (by simp[y])).1) (λid y=>(t id (by simp[y])).2)
   |j+6=>simp[zF]at q
  .cases h
@[simp] theorem Tr.val_bind  (t:Tr α) (k:α->Tr β):(t.bind k).val=t.val.bind λa=>(k a).val:=by
 induction t with
 |err=>rfl
 |chk c t q=>cases c<;>simp[Tr.bind,Tr.val,q]
 |br c t f p x=>cases c<;>simp[Tr.bind,Tr.val,p,x]
 |ok a=>rfl
@[simp] theorem Tr.val_err:(Tr.err:Tr α).val=Q2:=rfl
@[simp] theorem Tr.val_ok  (a:α):(Tr.ok a).val=Y a:=rfl
@[simp] theorem Tr.val_chk  (c:Bool) (t:Tr α) (a:α):(chk c t).val=Y a↔c=Z/\t.val=Y a:=by cases c<;>simp[Tr.val]
@[simp] theorem zw5 (v:AV) (f:gB):(ret v).val=Y f↔f={val:=v}:=by simp[ret,eq_comm]
@[simp] theorem zwU (v:Option AV) (f:gB):(HX v).val=Y f↔∃x,v=Y x/\f={val:=x}:=by cases v<;>simp[HX]
section
variable {P:Program} {w:World} {U:Nat->Prop} {ρ:Nat->Option Value}
variable {n:Nat}
theorem dv{t:TypeId}(h:gR P t=Y n)(w:World):(Go.sizeOf t).run P w=.ok n w:=by
 unfold gR at h;cases x:P.info? t with
 |none=>simp[x]at h
 |some i=>simp[x]at h;simp[Go.sizeOf,typeInfo,x,h]
theorem kQ{t:TypeId}{b:Bool}(h:Ho P t=Y b)(w:World):(isAgg t).run P w=.ok b w:=by
 unfold Ho at h;cases x:P.underlying t with
 |none=>simp[x]at h
 |some d=>cases d<;>simp[x]at h<;>subst h<;>simp[isAgg,bN x]
theorem Addr.add_none(b o n:Nat):(⟨b,o,Q2⟩:Addr).add n=⟨b,o+n,Q2⟩:=by unfold Addr.add;split<;>simp_all
theorem Bl{j k:Nat}(h:(List.range n)[j]?=Y k):j<n/\k=j:=by grind
theorem wl{t:TypeId}{s:List AV}{p:Nat}{r:AV}{b o:Nat}{vals:Nat->Value}(h:vg P t s p=Y r)
  (q:∀j,j<Io s->w.cell? ⟨b,o+j,Q2⟩=Y (vals j)) (h1:∀j,j<Io s->(vals j).oneCell'=Z)
  (hr:∀(j:Nat)(c:AV),s[j]?=Y c->Rv w U ρ c (vals j)):
  ∃x,(loadVar t ⟨b,o+p,Q2⟩).run P w=.ok x w/\Rv w U ρ r x:=by
 unfold vg at h;split at h
 .rename_i n u hn;split at h
  .rename_i h0;cases h;refine⟨.agg ((List.range n).map λj=>vals (p+j)).toArray,?_,?_⟩
   .have:=run_loadCells_list (P:=P) w ⟨b,o+p,Q2⟩ ((List.range n).map λj=>vals (p+j)) (λj v z=>by
     rw[Addr.add_none];grind)
    simp only[cY,List.length_range]at this;simp[loadVar,kQ u,dv hn,this]
   .refine .agg _ _ sg (λv z=>?_) (λj c v hc z=>?_)
    .grind
    grind
  .cases h
 next u=>have y:p<Io s:=(dF.1 h).1;refine⟨vals p,?_,hr _ _ h⟩;simp[loadVar,kQ u,q p y]
 .cases h
theorem Rv.sl_one{e:Sh}{l:List (Sem e)}{v:Value}(h:Rv w U ρ (.sl e l) v):v.oneCell'=Z:=by cases h<;>rfl
theorem gJ:∀(e:Sh)(x:Sem e)(j:Nat)(c:AV)(v:Value),(zF e x)[j]?=Y c->Rv w U ρ c v->v.oneCell'=Z
 |.unit,_,_,_,_,h,_=>by simp[zF]at h
 |.bool,_,0,_,_,h,p=>by simp[zF]at h;subst h;cases p;rfl
 |.int _,_,0,_,_,h,p=>by simp[zF]at h;subst h;cases p;rfl
 |.str,_,0,_,_,h,p=>by simp[zF]at h;subst h;cases p;rfl
 |.sl _,_,0,_,_,h,p=>by simp[zF]at h;subst h;cases p<;>rfl
 |.bool,_,_+1,_,_,h,_=>by simp[zF]at h
 |.int _,_,_+1,_,_,h,_=>by simp[zF]at h
 |.str,_,_+1,_,_,h,_=>by simp[zF]at h
 |.sl _,_,_+1,_,_,h,_=>by simp[zF]at h
 | .pr a b,x,j,c,v,h,p=>by
  simp only[zF]at h;rcases Nat.lt_or_ge j (zF a x.1).length with q|q
  .rw[rz q]at h;exact gJ a _ _ _ _ h p
  .rw[pE q]at h;exact gJ b _ _ _ _ h p
 | .expr,x,j,c,v,h,p=>by
  match j with
  |0=>simp[zF]at h;subst h;cases p;rfl
  |1=>simp[zF]at h;subst h;cases p;rfl
  |2=>simp[zF]at h;subst h;cases p;rfl
  |3=>simp[zF]at h;subst h;cases p;rfl
  |4=>simp[zF]at h;subst h;cases p;rfl
  |5=>simp[zF]at h;subst h;exact p.sl_one
  |_+6=>simp[zF]at h
theorem iM{av:AV}{cs:List AV}{v:Value}(h:cellsOf av=Y cs)(hr:Rv w U ρ av v):
  dn w U ρ cs v.cells.toList/\∀x∈v.cells.toList,x.oneCell'=Z:=by
 have q:∀{av:AV},v.oneCell'=Z->Rv w U ρ av v->dn w U ρ [av] v.cells.toList/\∀x∈v.cells.toList,x.oneCell'=Z:=by
  intro av y hr;have:v.cells=#[v]:=by cases v<;>simp[Value.oneCell']at y<;>rfl
  rw[this];refine⟨⟨rfl,λj c x hc hx=>?_⟩,by simpa using y⟩;cases j with
  |zero=>simp_all
  |succ j=>simp at hc
 cases hr with
 |any v=>simp[cellsOf]at h
 |tup cs vs hl hr=>simp[cellsOf]at h
 | agg h5 vs hl y hr=>
  simp[cellsOf]at h;subst h;exact⟨⟨by simp[Value.cells,hl],λj c v hc hv=>hr j c v hc (by simpa[Value.cells]using hv)⟩,by simpa[Value.cells]using y⟩
 |kb b=>simp[cellsOf]at h;subst h;exact q rfl (.kb b)
 |bool b=>simp[cellsOf]at h;subst h;exact q rfl (.bool b)
 |int k n hk=>simp[cellsOf]at h;subst h;exact q rfl (.int k n hk)
 |str s hs=>simp[cellsOf]at h;subst h;exact q rfl (.str s hs)
 |nils a=>simp[cellsOf]at h;subst h;exact q rfl (.nils a)
 |sl0 e a c=>simp[cellsOf]at h;subst h;exact q rfl (.sl0 e a c)
 |sl e l b o c h2 hc hm z hU u hr=>simp[cellsOf]at h;subst h;exact q rfl (.sl e l b o c h2 hc hm z hU u hr)
 |vec id v hv y=>simp[cellsOf]at h;subst h;exact q y (.vec id v hv y)
 |ptr id h0 b z=>simp[cellsOf]at h;subst h;exact q rfl (.ptr id h0 b z)
 |vptr id sz i h0 b n c z=>simp[cellsOf]at h;subst h;exact q rfl (.vptr id sz i h0 b n c z)
 |eptr cs h0 b o h2 z hU u y hr=>simp[cellsOf]at h;subst h;exact q rfl (.eptr cs h0 b o h2 z hU u y hr)
 |nilp=>simp[cellsOf]at h;subst h;exact q rfl .nilp
 |clo fn fs cs vf vc hf hc h4 h3=>simp[cellsOf]at h;subst h;exact q rfl (.clo fn fs cs vf vc hf hc h4 h3)
 |nilf=>simp[cellsOf]at h;subst h;exact q rfl .nilf
 |mp id v hv y=>simp[cellsOf]at h;subst h;exact q y (.mp id v hv y)
 |ifcN=>simp[cellsOf]at h;subst h;exact q rfl .ifcN
 |ifcS t v=>simp[cellsOf]at h;subst h;exact q rfl (.ifcS t v)
 |tab k zs b p fr z hU=>simp[cellsOf]at h;subst h;exact q rfl (.tab k zs b p fr z hU)
 |gint m b p fr hm z hU=>simp[cellsOf]at h;subst h;exact q rfl (.gint m b p fr hm z hU)
theorem VV{b:Nat}{v:Array Value}{t:TypeId}{x:Nat×Nat}(h:w.heap[b]?=Y (.cells v t x))(j:Nat)(p:j<v.size):
  w.cell? ⟨b,j,Q2⟩=Y (v.toList.getD j undef):=by simp[World.cell?,h,uD p,List.getD]
variable {f:gB}
theorem Jl{hp:Nat->AO}{t:TypeId}{av:AV}{v:Value}(h:(K5 P hp t av).val=Y f)(hv:Rv w U ρ av v)
  (x0:∀id∈av.ids,bz w U ρ id (hp id)):∃r x,f={val:=r}/\(Instr.loadAt t v).run P w=.ok x w/\Rv w U ρ r x:=by
 unfold K5 at h;split at h
 .rename_i id x2;cases hv with
  |ptr _ _ b hb=>
  have ho:=x0 id (by simp[AV.ids]);split at h
  .rename_i cs h6;rw[h6]at ho;have⟨b',p,z,s,h2,h3,h4,h5⟩:=ho;rw[hb]at s;cases s;simp at h;obtain⟨r,hr,rfl⟩:=h
   have⟨x,hx,y⟩:=wl (w:=w) (U:=U) (ρ:=ρ) (b:=b) (o:=0) (vals:=λj=>z.toList.getD j undef) hr
    (λj u=>by rw[eI];exact VV h3 j (by rw[h4.len]at u;simpa using u))
    (λj u=>h5 _ (by
     rw[h4.len]at u;simp_all))
    (λj c hc=>h4.rv j c _ hc (by
     have u:j<z.toList.length:=by rw[<-h4.len];exact(dF.1 hc).1
     simp_all))
   rw[eI]at hx;exact⟨r,x,rfl,by simp[Instr.loadAt,Instr.sureAddr,hx],y⟩
  .simp at h
 .rename_i cs x2;cases hv with
  |eptr _ _ b o z hb hU h0 s hr=>
  simp at h;obtain⟨r,h7,rfl⟩:=h;have⟨x,hx,y⟩:=wl (w:=w) (U:=U) (ρ:=ρ) h7 h0 s hr;exact⟨r,x,rfl,by simp[Instr.loadAt,Instr.sureAddr,hx],y⟩
 .rename_i id sz i x2;cases hv with
  |vptr _ _ _ _ b n c hb=>
  have ho:=x0 id (by simp[AV.ids]);split at h
  .rename_i e l h6;rw[h6]at ho;have⟨a,c',s,hm,h3⟩:=ho;rw[hb]at s;cases s;split at h
   .rename_i x1;subst x1;simp at h;obtain⟨hi,r,hr,rfl⟩:=h;rcases h3 with⟨rfl,_⟩|⟨b',p,h8,x3,hc,hU,x4,x1,x5,h7⟩
    .simp at hi
    .cases x3;have h9:l[i]?.getD (zj e)=l[i]:=by simp[aj hi]
     rw[h9]at hr;have q:∀j,j<(zF e l[i]).length->∃v c,h8[i*e.size+j]?=Y v/\(zF e l[i])[j]?=Y c/\Rv w U ρ c v:=by
      intro j u;have⟨v,s,h2⟩:=h7 i hi j _ (aj u);exact⟨v,_,s,aj u,h2⟩
     have⟨x,hx,y⟩:=wl (w:=w) (U:=U) (ρ:=ρ) (b:=b) (o:=i*e.size) (vals:=λj=>(h8[i*e.size+j]?).getD undef) hr
      (λj u=>by
       have⟨v,c,s,h2,h3⟩:=q j u;simp[World.cell?,x4,s])
      (λj u=>by
       have⟨v,c,s,h2,h3⟩:=q j u;simp only[s,bK];exact gJ _ _ _ _ _ h2 h3)
      (λj c hc=>by
       grind)
     exact⟨r,x,rfl,by simp[Instr.loadAt,Instr.sureAddr,hx],y⟩
   .simp at h
  .simp at h
 .simp at h
theorem RB{t:TypeId}{fl:Nat}{x:AV}{v:Value}(h:(K2 P t fl x).val=Y f)(hv:Rv w U ρ x v):
  ∃r p,f={val:=r}/\(Instr.fieldAt t v fl).run P w=.ok p w/\Rv w U ρ r p:=by
 unfold K2 at h;split at h
 .rename_i z s;unfold CZ at s;split at s
  .rename_i fs hu;split at h
   .rename_i k hk;have q:∀a:Addr,(fieldPlace a z).run P w=.ok (a.add z.offset) w:=by
     intro a;simp[fieldPlace,dv hk]
    split at h
    .rename_i id u;cases hv with
     |ptr _ _ b hb=>
     simp at h;subst h;exact⟨_,_,rfl,by simp[Instr.fieldAt,bN hu,s,Instr.sureAddr,q,Addr.add_none],.ptr id (u+z.offset) b hb⟩
    .rename_i cs u;cases hv with
     |eptr _ _ b o h0 hb hU y h1 hr=>
     simp at h;subst h;refine⟨_,_,rfl,by simp[Instr.fieldAt,bN hu,s,Instr.sureAddr,q,Addr.add_none];rfl,?_⟩;rw[Nat.add_assoc];exact .eptr cs (u+z.offset) b o h0 hb hU y h1 hr
    .rename_i id sz i u;cases hv with
     |vptr _ _ _ _ b n c hb=>
     simp at h;subst h;refine⟨_,_,rfl,by simp[Instr.fieldAt,bN hu,s,Instr.sureAddr,q,Addr.add_none];rfl,?_⟩;rw[Nat.add_assoc];exact .vptr id sz i (u+z.offset) b n c hb
    .simp at h
   .simp at h
  .cases s
 .simp at h
theorem nF{k:Int}:zK k n=Z↔0<=k/\k<n:=by simp[zK]
theorem Ti{k:Int}{g:Nat->AV}{e:gB}:∀(n i:Nat),(VM k g i n).val=Y e->(i:Int)<=k->k<i+n->e={val:=g k.toNat}
 |0,_,h,_,_=>by simp[VM]at h
 | 1,i,h,p,q=>by
  have:k.toNat=i:=by omega
  simp[VM]at h;simp_all
 | n+2,i,h,p,q=>by
  rw[VM,Tr.val]at h;split at h
  .simp_all
  .rename_i x;have x:k≠i:=by simpa using x
   exact Ti (n+1) (i+1) h ow ow
theorem E4{hp:Nat->AO}{t:TypeId}{x ai:AV}{v vi:Value}(h:(rL P hp t x ai).val=Y f)
  (hx:Rv w U ρ x v) (hi:Rv w U ρ ai vi) (x1:∀id∈x.ids,bz w U ρ id (hp id)):
  ∃r p,f={val:=r}/\(Instr.indexAt t v vi).run P w=.ok p w/\Rv w U ρ r p:=by
 have h9:∀(e:Sh)(l:List (Sem e))(k:Int)(ik:IntKind)(s:TypeId),P.underlying t=Y (.slice s)->gR P s=Y e.size->0<=k->k<Io l->
   Rv w U ρ (.sl e l) v->∃p,(Instr.indexAt t v (.int ik k)).run P w=.ok p w/\Rv w U ρ (.eptr (zF e (l.getD k.toNat (zj e))) 0) p:=by
  intro e l k ik s hu u h0 h1 hr;cases hr with
  |sl0 _ a c=>simp at h1;omega
  | sl _ _ b o c z hc hm hb hU y h6=>
   have h2:k.toNat<Io l:=by omega
   refine⟨.pointer (Y ⟨b,o+k.toNat*e.size+0,Q2⟩),?_,?_⟩
   .simp[Instr.indexAt,asIntOf,bN hu,h0,h1,dv u,Addr.add_none]
   .have h7:l.getD k.toNat (zj e)=l[k.toNat]:=by simp[List.getD,aj h2]
    rw[h7]
    exact .eptr _ 0 b (o+k.toNat*e.size) (λj=>z k.toNat j) hb hU (λj hj=>y _ _ h2 (by rwa [au]at hj))
     (λj hj=>gJ _ _ j _ _ (aj hj) (h6 _ h2 j _ (aj hj))) (λj c hc=>h6 _ h2 j c hc)
 unfold rL at h;split at h
 .rename_i ik k;cases hi;split at h
  .rename_i s hu;split at h
   .rename_i e l;split at h
    next u=>simp[nF]at h;simp_all
    .simp at h
   .rename_i id;have ho:=x1 id (by simp[AV.ids]);split at h
    .rename_i e l h5;rw[h5]at ho;split at h
     .rename_i u;simp[nF]at h;obtain⟨⟨h0,h1⟩,rfl⟩:=h;have⟨a,c',hr,hm,h3⟩:=ho;cases hx with
      |vec _ _ hv _=>
      rw[hr]at hv;cases hv;rcases h3 with⟨rfl,_⟩|⟨b',q,x3,rfl,hc,hU,x4,x2,x5,h6⟩
      .simp at h1;omega
      .refine⟨_,.pointer (Y ⟨b',k.toNat*e.size+0,Q2⟩),rfl,?_,.vptr id e.size k.toNat 0 b' _ _ hr⟩;simp[Instr.indexAt,asIntOf,bN hu,h0,h1,dv u,Addr.add_none]
     .simp at h
    .rename_i e l h5;rw[h5]at ho;split at h
     .rename_i u;simp[nF]at h;obtain⟨⟨h0,h1⟩,rfl⟩:=h;have⟨v',x7,x6⟩:=ho;cases hx with
      |vec _ _ hv _=>
      simp_all
     .simp at h
    .simp at h
   .simp at h
  .rename_i x8 s hu;split at h
   .rename_i sz u;split at h
    .rename_i id h4;simp[nF]at h;obtain⟨⟨h0,h1⟩,rfl⟩:=h;cases hx with
     |ptr _ _ b hb=>
     refine⟨_,_,rfl,?_,.ptr id (h4+k.toNat*sz) b hb⟩;simp[Instr.indexAt,asIntOf,bN hu,h0,h1,dv u,Addr.add_none,Instr.sureAddr]
    .rename_i cs h4;simp only[Tr.val]at h;split at h;rotate_left
     .cases h
     rename_i x0;have⟨h0,h1⟩:=nF.1 x0;have h:=Ti _ _ h ow ow;subst h;cases hx with
     |eptr _ _ b o z hb hU y h8 hr=>
     refine⟨_,.pointer (Y ⟨b,o+(h4+k.toNat*sz),Q2⟩),rfl,?_,.eptr cs (h4+k.toNat*sz) b o z hb hU y h8 hr⟩;simp[Instr.indexAt,asIntOf,bN hu,h0,h1,dv u,Addr.add_none,Instr.sureAddr,Nat.add_assoc]
    .simp at h
   .simp at h
  .simp at h
 .simp at h
end
section
variable {P:Program} {w:World} {U:Nat->Prop} {ρ:Nat->Option Value}
variable {k:IntKind}
theorem WE{n:Int}(h:RQ k n=Z):dw k n:=by cases k<;>simp[RQ]at h<;>simp[dw,IntKind.min,IntKind.max,IntKind.signed,IntKind.bits]<;>omega
theorem Te(v:Value):Rv w U ρ (Kz v) v:=by
 unfold Kz;split
 .exact .kb _
 .split
  next h=>exact .int _ _ (WE h)
  .exact .any _
 .rename_i s;split
  .rename_i h;have:s=⟨s.data.toList.toArray⟩:=by cases s;simp
   have x:s.data.toList.length<=aF:=by unfold aF;omega
   have:=Rv.str (w:=w) (U:=U) (ρ:=ρ) s.data.toList x;simpa using this
  .exact .any _
 .exact .nils _
 .exact .nilp
 .exact .nilf
 .exact .ifcN
 .exact .any _
theorem zfQ(v:Value):zwp v=v.oneCell':=by cases v<;>rfl
theorem sZ(v:Value):Rv w U ρ (Cw v) v:=by
 unfold Cw;split
 .rename_i x;split
  .rename_i h;have:=Rv.agg (w:=w) (U:=U) (ρ:=ρ) (x.toList.map Kz) x.toList sw (λv p=>by
    rw[<-zfQ];exact ep.1 h v p) (λj c v q p=>by
    grind[Te])
   simpa using this
  .exact .any _
 .exact Te _
theorem nO(k:IntKind)(n:Int):dw k (k.wrap n):=by cases k<;>simp[dw,IntKind.min,IntKind.max,IntKind.signed,IntKind.bits,IntKind.wrap]<;>(try split)<;>omega
theorem FN{c:Bool}{x y z:AV}{v:Value}(h:tH c x y=Y z)(p:Rv w U ρ (ite c x y) v):Rv w U ρ z v:=by
  unfold tH at h;split at h
  all_goals first
    |(cases h;cases c<;>simp at p|-<;>cases p<;>first|exact .bool _|exact .str _ ‹_›)
    | (split at h
       · rename_i q;subst q;cases h;cases c<;>simp at p|-<;>exact p
       · cases h)
    |cases h
theorem F3{t:TypeId}{u:List AV}{p:Nat}{r:AV}{s:List Value}(h:vg P t u p=Y r)
  (hl:Io u=Io s) (z:∀v∈s,v.oneCell'=Z) (hr:∀(j:Nat)(c:AV)(v:Value),u[j]?=Y c->s[j]?=Y v->Rv w U ρ c v):
  ∃x,(part t s.toArray p).run P w=.ok x w/\Rv w U ρ r x:=by
 unfold vg at h;split at h
 .rename_i n y hn;split at h
  .rename_i h0;cases h;refine⟨.agg (s.toArray.extract p (p+n)),by simp[part,kQ y,dv hn],?_⟩;have he:s.toArray.extract p (p+n)=((s.drop p).take n).toArray:=by
    apply kZ;simp[List.extract_eq_take_drop]
   rw[he];refine .agg _ _ (by simp[hl]) (λv q=>z v (List.mem_of_mem_drop (List.mem_of_mem_take q))) (λj c v hc q=>?_);grind
  .cases h
 next y=>have h2:p<Io u:=(dF.1 h).1;have q:s[p]?=Y s[p]:=aj ow;refine⟨s[p],?_,hr _ _ _ h q⟩;simp[part,kQ y,q]
 .cases h
theorem zgr(s:zN)(i:Nat)(h:i<Io s):(⟨s.toArray⟩:ByteArray)[i]?=Y (s.getD i 0):=by
 have x:i<(⟨s.toArray⟩:ByteArray).size:=by simpa[ByteArray.size]using h
 rw[getElem?_pos _ i x];simp[List.getD,aj h];rfl
variable {f:gB}
theorem RC{t:TypeId}{x ai:AV}{v vi:Value}(h:(K4 P t x ai).val=Y f)
  (u:Rv w U ρ x v) (hi:Rv w U ρ ai vi):∃r p,f={val:=r}/\(Instr.index t v vi).run P w=.ok p w/\Rv w U ρ r p:=by
 unfold K4 at h;split at h
 .rename_i ik k;cases hi;split at h
  .rename_i s hu;simp[nF]at h;obtain⟨⟨y,h1⟩,rfl⟩:=h;cases u with
   |str _ hs=>
   have z:k.toNat<Io s:=by omega
   refine⟨_,.int .u8 (s.getD k.toNat 0).toNat,rfl,?_,?_⟩
   .simp[Instr.index,asIntOf,bN hu,y,zgr s _ z]
   .rw[bD];refine .int _ _ ?_;have:=(s[k.toNat]?.getD 0).toNat_lt;simp[dw,IntKind.min,IntKind.max,IntKind.signed,IntKind.bits];omega
  .rename_i h5 h4 cs hu;split at h
   .rename_i sz h3;split at h
    .rename_i r hp;simp[nF]at h;obtain⟨⟨y,h1⟩,rfl⟩:=h;cases u with
     |agg _ vs hl q hr=>
     have⟨p,u,h2⟩:=F3 (w:=w) (U:=U) (ρ:=ρ) hp hl q hr;exact⟨r,p,rfl,by simp[Instr.index,asIntOf,bN hu,y,h1,dv h3,u],h2⟩
    .simp at h
   .simp at h
  .simp at h
 .simp at h
theorem JE(n:Nat)(x:n<=aF):dw .i64 (n:Int):=by unfold aF at x;simp[dw,IntKind.min,IntKind.max,IntKind.signed,IntKind.bits];omega
theorem MG{e:Sh}{l:List (Sem e)}{v:Value}(t:Rv w U ρ (.sl e l) v):∃a c,v=.slice a (Io l) c/\Io l<=aF/\Io l<=c:=by
 cases t with
 |sl0 _ a c=>exact⟨a,c,rfl,sw,sw⟩
 |sl _ _ b o c p q s z y x u=>exact⟨_,_,rfl,s,q⟩
theorem Hc(s:zN):(⟨s.toArray⟩:ByteArray).size=Io s:=by simp[ByteArray.size]
theorem Zy{hp:Nat->AO}{t:TypeId}{x:AV}{v:Value}{ty:TypeId}(h:(Zx P hp t x).val=Y f)(hx:Rv w U ρ x v)
  (h6:∀id∈x.ids,bz w U ρ id (hp id)):
  ∃r p,f={val:=r}/\(Builtin.len_ #[t] ty #[v]).run P w=.ok p w/\Rv w U ρ r p:=by
 unfold Zx at h;split at h
 .rename_i y;split at h
  .rename_i s;simp at h;subst h;cases hx with
   |str _ hs=>exact⟨_,.int .i64 (Io s),rfl,by simp[Builtin.len_,bN y,goInt,Hc],.int _ _ (JE _ hs)⟩
  .simp at h
 .rename_i e0 y;split at h
  .simp at h;subst h;cases hx;exact⟨_,_,rfl,by simp[Builtin.len_,bN y,goInt],.int _ _ (JE 0 sw)⟩
  next e l=>simp at h;subst h;obtain⟨a,c,rfl,hm,_⟩:=MG hx;exact⟨_,_,rfl,by simp[Builtin.len_,bN y,goInt],.int _ _ (JE _ hm)⟩
  .rename_i id;have z:=h6 id (by simp[AV.ids]);cases hx with
   |vec _ _ hv _=>
   split at h
   next e l q=>rw[q]at z;have⟨a,c',hr,hm,h3⟩:=z;rw[hr]at hv;cases hv;simp at h;subst h;exact⟨_,_,rfl,by simp[Builtin.len_,bN y,goInt],.int _ _ (JE _ hm)⟩
   next e l q=>rw[q]at z;have⟨v',h7,h9⟩:=z;rw[hv]at h7;cases h7;obtain⟨a,c,rfl,hm,_⟩:=MG h9;simp at h;subst h;exact⟨_,_,rfl,by simp[Builtin.len_,bN y,goInt],.int _ _ (JE _ hm)⟩
   .simp at h
  .simp at h
 .rename_i kt et y;split at h
  .rename_i id;have z:=h6 id (by simp[AV.ids]);cases hx with
   |mp _ _ hv _=>
   split at h
   .rename_i u es q;rw[q]at z;have⟨r,h0,h8,h1,h2,h3,h4,h5⟩:=z;rw[h1]at hv;cases hv;simp at h;obtain⟨x0,rfl⟩:=h;have hl:h0.size=Io es:=by have:=congrArg Io h4;simpa using this
    exact⟨_,.int .i64 (Io es),rfl,by simp[Builtin.len_,bN y,goInt,ic h3,hl,Result.andThen],.int _ _ (JE _ um)⟩
   .simp at h
  .simp at h
 .simp at h
variable {a b:Value}
theorem Zu{d:Nat}{t:TypeId}{x y:AV}{r:Bool}(h:eqT P t x y=Y r)(q:Rv w U ρ x a)(s:Rv w U ρ y b):
  (Op.equalIn (d+1) t a b).run P w=.ok r w:=by
 unfold eqT at h;split at h
 .rename_i p;split at h
  next u=>subst u;cases h;cases q;cases s;exact run_equalIn_int w d t _ _ _ _ p
  .cases h
 next p=>cases h;cases q;cases s;rw[run_equalIn_string w d t _ _ p];simp
 all_goals first
  |(rename_i p;cases h;cases q;cases s;exact run_equalIn_bool w d t _ _ p)
  |cases h
theorem zeY{t:TypeId}{x y:AV}{r:Bool}(h:eqT P t x y=Y r):Ho P t=Y M:=by unfold eqT at h;split at h<;>simp_all[Ho]
theorem TH{d:Nat}:∀(s:List Field)(i:Nat)(u y:List AV)(r:Bool)(p q:Array Value),HL P s i u y=Y r->
  (∀(j:Nat) c,u[j]?=Y c->∃v,p[i+j]?=Y v/\Rv w U ρ c v)->(∀(j:Nat) c,y[j]?=Y c->∃v,q[i+j]?=Y v/\Rv w U ρ c v)->
  (Op.eqFields (d+1) p q s).run P w=.ok r w
 | [],i,[],[],r,p,q,h,_,_=>by
  simp[HL]at h;subst h;simp[Op.eqFields]
 | f :: s,i,a::u,b::y,r,p,q,h,hx,hy=>by
  simp only[HL]at h;split at h
  .rename_i hc;simp at hc;have⟨hn,ho⟩:=hc;split at h
   .rename_i r1 s1 h1 h2;cases h;have⟨va,h4,h0⟩:=hx 0 a rfl;have⟨vb,h5,h3⟩:=hy 0 b rfl;have x:∀(vz:Array Value)(v:Value),vz[i+0]?=Y v->(part f.type vz f.offset).run P w=.ok v w:=by
     intro vz v t;rw[vC]at t;simp[part,kQ (zeY h1),ho,t]
    have ih:=TH (d:=d) s (i+1) u y s1 p q h2 (λj c z=>by
      have⟨v,t,hr⟩:=hx (j+1) c z;grind)
     (λj c z=>by
      have⟨v,t,hr⟩:=hy (j+1) c z;grind)
    simp only[Op.eqFields,ne_eq,hn,not_false_eq_true,zi,dB,x p va h4,x q vb h5,qJ,Zu h1 h0 h3,Sem.run_ite,Sem.run_pure,ih];cases r1<;>simp
   .cases h
  .cases h
 |[],_,_::_,_,_,_,_,h,_,_=>by simp[HL]at h
 |[],_,[],_::_,_,_,_,h,_,_=>by simp[HL]at h
 |_::_,_,[],_,_,_,_,h,_,_=>by simp[HL]at h
 |_::_,_,_::_,[],_,_,_,h,_,_=>by simp[HL]at h
theorem Rw{t:TypeId}{x y:AV}{r:Bool}(h:eqA P t x y=Y r)(ha:Rv w U ρ x a)(hb:Rv w U ρ y b)
  (h4:∀k n k' n',x=.int k n->y=.int k' n'->False) (h5:∀s s',x=.str s->y=.str s'->False):
  (Op.equal t a b).run P w=.ok r w/\(∀z p q,(eqGuard z t p q a b).run P w=.ok () w)/\((∃c d,a=.bool c/\b=.bool d)\/∃c d,a=.agg c/\b=.agg d):=by
 unfold eqA at h;split at h
 .rename_i a' b';cases ha with
  |agg _ vs hl h1 hr=>
  cases hb with
  |agg _ h0 h3 h7 h6=>
  split at h
  .rename_i fs hu;split at h
   .rename_i hc;simp at hc;have⟨hs,hg⟩:=hc;refine⟨?_,λz p q=>run_eqGuard_agg w z t p q _ _ hg,.inr ⟨_,_,rfl,rfl⟩⟩;have hf:P.fieldsOf t=fs:=by simp[Program.fieldsOf,hu]
    show(Op.equalIn (9999+1) t _ _).run P w=_;rw[run_equalIn_struct w 9999 t _ _ (by rw[hf];exact hu) hs,hf];refine TH (U:=U) (ρ:=ρ) (d:=9998) fs.toList 0 a' b' r _ _ h (λj c v=>?_) (λj c v=>?_)
    .have u:j<Io vs:=by rw[<-hl];exact(dF.1 v).1
     exact⟨vs[j],by simp[aj u],hr j c _ v (aj u)⟩
    .have u:j<Io h0:=by rw[<-h3];exact(dF.1 v).1
     exact⟨h0[j],by simp[aj u],h6 j c _ v (aj u)⟩
   .cases h
  .cases h
 .have h':=h;unfold eqT at h;split at h
  .exact zB (h4 _ _ _ _ rfl rfl) id
  .exact zB (h5 _ _ rfl rfl) id
  all_goals first
   |(cases h;have h2:=Zu (d:=9999) h' ha hb;cases ha;cases hb;exact⟨h2,λz p q=>by cases z<;>simp[eqGuard],.inl ⟨_,_,rfl,rfl⟩⟩)
   |cases h
theorem zeh{op:BinOp}{t:TypeId}{x y:AV}(p q:Operand)(h:(zmt P op t x y).val=Y f)(ha:Rv w U ρ x a)(hb:Rv w U ρ y b)
  (u:∀k n k' n',x=.int k n->y=.int k' n'->False) (v:∀s s',x=.str s->y=.str s'->False):
  ∃r z,f={val:=r}/\(do eqGuard op t p q a b;binOp op t a b:Go.Sem Value).run P w=.ok z w/\Rv w U ρ r z:=by
 unfold zmt at h;split at h
 .split at h
  next r hr=>simp at h;subst h;have⟨h1,h2,h3⟩:=Rw hr ha hb u v;refine⟨_,.bool r,rfl,?_,.bool r⟩;rw[dB,h2];rcases h3 with⟨c,d,rfl,rfl⟩|⟨c,d,rfl,rfl⟩<;>simp[binOp,h1]
  .simp at h
 .split at h
  next r hr=>simp at h;subst h;have⟨h1,h2,h3⟩:=Rw hr ha hb u v;refine⟨_,.bool (!r),rfl,?_,.bool (!r)⟩;rw[dB,h2];rcases h3 with⟨c,d,rfl,rfl⟩|⟨c,d,rfl,rfl⟩<;>simp[binOp,h1]
  .simp at h
 .simp at h
theorem Vg{a b:Int}(x:dw k a)(p:dw k b)(q:b≠0):k.wrap (a.tmod b)=a.tmod b:=by
 have s:=Int.tmod_lt_of_pos;have:(a.tmod b).natAbs<b.natAbs:=by
  rw[Int.natAbs_tmod];exact Nat.mod_lt _ ow
 have t:0<=a->0<=a.tmod b:=λh=>Int.tmod_nonneg b h
 cases k<;>simp[dw,IntKind.min,IntKind.max,IntKind.signed,IntKind.bits]at x p<;>simp[IntKind.wrap,IntKind.signed,IntKind.bits]<;>(try split)<;>omega
theorem zfa{a:Int}(h:dw k a):dw k (a/2):=by have⟨x,p⟩:=h;cases k<;>(simp only[dw,IntKind.min,IntKind.max,IntKind.signed,IntKind.bits]at x p|-;simp at x p|-;omega)
theorem zei{u:BinOp}{t:TypeId}{a b:Int}(p q:Operand)(h:(zmu u k a b).val=Y f)(v:dw k a)(y:dw k b):
  ∃r z,f={val:=r}/\(do eqGuard u t p q (.int k a) (.int k b);binOp u t (.int k a) (.int k b):Go.Sem Value).run P w=.ok z w/\Rv w U ρ r z:=by
 have x:∀u,(eqGuard u t p q (.int k a) (.int k b)).run P w=.ok () w:=by intro u;cases u<;>simp[eqGuard]
 unfold zmu at h;split at h
 .simp at h;subst h;exact⟨_,_,rfl,by rw[dB,x];simp[binOp,Op.intArith],.int _ _ (nO _ _)⟩
 .simp at h;subst h;exact⟨_,_,rfl,by rw[dB,x];simp[binOp,Op.intArith],.int _ _ (nO _ _)⟩
 .simp at h;subst h;exact⟨_,_,rfl,by rw[dB,x];simp[binOp,Op.intArith],.int _ _ (nO _ _)⟩
 .simp at h;obtain⟨s,rfl⟩:=h;exact⟨_,_,rfl,by rw[dB,x];simp[binOp,Op.intDiv,s],.int _ _ (nO _ _)⟩
 .simp at h;obtain⟨s,rfl⟩:=h;refine⟨_,.int k (a.tmod b),rfl,by rw[dB,x];simp[binOp,Op.intDiv,s],?_⟩;rw[Vg v y s];exact .int _ _ (by rw[<-Vg v y s];exact nO _ _)
 .simp at h;obtain⟨s,rfl⟩:=h;subst s;refine⟨_,.int k (a/2),rfl,?_,.int _ _ (zfa v)⟩;have hk:min 1 k.bits=1:=by cases k<;>rfl
  have hd:a.fdiv 2=a/2:=by rw[Int.fdiv_eq_ediv_of_nonneg];omega
  rw[dB,x];simp[binOp,Op.shift,hk,hd]
 .simp at h;subst h;exact⟨_,_,rfl,by rw[dB,x];simp[binOp,Op.intBits],.int _ _ (nO _ _)⟩
 all_goals first
  |(simp at h;subst h;exact⟨_,_,rfl,by rw[dB,x];simp[binOp,Op.intCmp],.bool _⟩)
  |simp at h
theorem SL(a b:zN):(⟨a.toArray⟩:ByteArray)++⟨b.toArray⟩=⟨(a++b).toArray⟩:=by apply ByteArray.ext;simp
theorem zej{x:BinOp}{t:TypeId}{a b:zN}(p q:Operand)(h:(zmv x a b).val=Y f):
  ∃r z,f={val:=r}/\(do eqGuard x t p q (.string ⟨a.toArray⟩) (.string ⟨b.toArray⟩);binOp x t (.string ⟨a.toArray⟩) (.string ⟨b.toArray⟩):Go.Sem Value).run P w=.ok z w/\Rv w U ρ r z:=by
 have s:∀x,(eqGuard x t p q (.string ⟨a.toArray⟩) (.string ⟨b.toArray⟩)).run P w=.ok () w:=by intro x;cases x<;>simp[eqGuard]
 unfold zmv at h;split at h
 .simp at h;obtain⟨u,rfl⟩:=h;refine⟨_,.string ⟨(a++b).toArray⟩,rfl,?_,.str _ (by unfold aF;simp;omega)⟩;rw[dB,s];simp[binOp,Op.stringOp,Hc,SL];omega
 all_goals first
  |(simp at h;subst h;exact⟨_,_,rfl,by rw[dB,s];simp[binOp,Op.stringOp],.bool _⟩)
  |simp at h
theorem zgk{s:BinOp}{t:TypeId}{v:IntKind}{a b:Int}(p q:Operand)(h:(zoW s k a b).val=Y f)(u:dw k a):
  ∃r z,f={val:=r}/\(do eqGuard s t p q (.int k a) (.int v b);binOp s t (.int k a) (.int v b):Go.Sem Value).run P w=.ok z w/\Rv w U ρ r z:=by
 unfold zoW at h;split at h
 .simp at h;obtain⟨y,rfl⟩:=h;refine⟨_,_,rfl,by simp[eqGuard,binOp,Op.shift,show¬b<0 by omega],.int _ _ ?_⟩;generalize min b.toNat k.bits=n;have x:(0:Int)<2^n:=Int.pow_pos (by decide);generalize(2:Int)^n=c at x;rw[Int.fdiv_eq_ediv_of_nonneg _ ow];have l1:min 0 a<=a/c:=by
   rcases Int.le_total 0 a with q|q
   .have:=Int.ediv_nonneg q (Int.le_of_lt x);omega
   .have h2:a*c<=a*1:=Int.mul_le_mul_of_nonpos_left q ow;have:=(Int.le_ediv_iff_mul_le x).2 (by simpa using h2);omega
  have l2:a/c<=max 0 a:=by
   rcases Int.le_total 0 a with q|q
   .have:=Int.ediv_le_self c q;omega
   .have:=Int.ediv_nonpos_of_nonpos_of_neg q x;omega
  have y:k.min<=0/\0<=k.max:=by cases k<;>decide
  exact⟨by have:=u.1;omega,by have:=u.2;omega⟩
 .simp at h
theorem zeg{op:BinOp}{t:TypeId}{x y:AV}(p q:Operand)(h:(zms P op t x y).val=Y f)(u:Rv w U ρ x a)(v:Rv w U ρ y b):
  ∃r z,f={val:=r}/\(do eqGuard op t p q a b;binOp op t a b:Go.Sem Value).run P w=.ok z w/\Rv w U ρ r z:=by
 unfold zms at h;split at h
 .split at h
  .rename_i hk;subst hk;cases u with
   |int _ _ h1=>
   cases v with
   |int _ _ h2=>exact zei p q h h1 h2
  .cases u with
   |int _ _ h1=>
   cases v with
   |int _ _ h2=>exact zgk p q h h1
 .cases u;cases v;exact zej p q h
 next h0 h3=>exact zeh p q h u v (λk n k' n' e1 e2=>h0 k n k' n' e1 e2) (λs s' e1 e2=>h3 s s' e1 e2)
def qz(p:List Value)(x:Nat):List Value->List Value
 |[]=>p
 |v::r=>qz (p.set x v) (x+1) r
theorem ja:∀(r p:List Value)(x:Nat),(qz p x r).length=Io p
 |[],_,_=>rfl
 |v::r,p,x=>by simp[qz,ja r]
theorem qT:∀(r p:List AV)(x:Nat),(setCells p x r).length=Io p
 |[],_,_=>rfl
 |v::r,p,x=>by simp[setCells,qT r]
theorem DG:∀(r:List AV)(t:List Value)(s:List AV)(u:List Value)(x:Nat),dn w U ρ s u->dn w U ρ r t->dn w U ρ (setCells s x r) (qz u x t)
 |[],[],s,u,x,h,_=>h
 |[],_::_,_,_,_,_,h=>by have:=h.len;simp at this
 |_::_,[],_,_,_,_,h=>by have:=h.len;simp at this
 | c::r,v::t,s,u,x,h,h'=>by
  refine DG r t _ _ (x+1) ⟨by simp[h.len],λj y v' p q=>?_⟩ ⟨by have:=h'.len;simpa using this,λj y v' p q=>h'.rv (j+1) y v' p q⟩;rw[nr]at p q;by_cases hj:x=j
  .simp only[hj,zi]at p q;split at p
   next z=>rw[zf (by rw[<-h.len];exact z)]at q;cases p;cases q;exact h'.rv 0 _ _ rfl rfl
   .cases p
  .rw[zh hj]at p q;exact h.rv j y v' p q
theorem G7:∀(q s:List Value)(p:Nat),(∀v∈s,v.oneCell'=Z)->(∀v∈q,v.oneCell'=Z)->∀v∈qz s p q,v.oneCell'=Z
 |[],_,_,h,_=>h
 | v::q,s,p,h,h'=>G7 q _ _ (fun x t=>by
   grind) (λx t=>h' x (by simp[t]))
theorem Ff(q:List Value):∀(l:List Value)(k:Nat)(x:Nat),(l.zipIdx k).foldl (λ(q:Array Value)(p:Value×Nat)=>q.setIfInBounds (x+p.2) p.1) q.toArray=(qz q (x+k) l).toArray
 |[],_,_=>rfl
 | v::l,k,x=>by
  simp only[List.zipIdx_cons,List.foldl_cons,qz];have:=Ff (q.set (x+k) v) l (k+1) x;grind
theorem E8{q:Nat->Option (Nat×Nat)}:∀(p:List (Nat×AV))(x:List (Nat×Value))(cs:List AV)(s:List Value)(r:List AV),
  Jn q cs p=Y r->dn w U ρ cs s->(∀v∈s,v.oneCell'=Z)->p.map (·.1)=x.map (·.1)->dn w U ρ (p.map (·.2)) (x.map (·.2))->
  ∃vr,Instr.fill q s.toArray x=Y vr/\dn w U ρ r vr.toList/\∀v∈vr.toList,v.oneCell'=Z
 | [],[],cs,s,r,h,hr,h1,_,_=>by
  simp[Jn]at h;subst h;exact⟨s.toArray,by simp[Instr.fill],by simpa using hr,by simpa using h1⟩
 |[],_::_,_,_,_,_,_,_,h,_=>by simp at h
 |_::_,[],_,_,_,_,_,_,h,_=>by simp at h
 | (i,c)::p,(i',v)::x,cs,s,r,h,hr,h1,hi,hp=>by
  simp at hi;obtain⟨rfl,hi⟩:=hi;simp only[Jn]at h;split at h
  .rename_i z h5 h6 h3 h0;split at h
   .rename_i h4;have⟨h7,h8⟩:=h4;have⟨t,u⟩:=iM (w:=w) (U:=U) (ρ:=ρ) h0 (hp.rv 0 c v rfl rfl)
    have⟨vr,e1,e2,e3⟩:=E8 p x _ (qz s z v.cells.toList) r h (DG _ _ _ _ _ hr t) (G7 _ _ _ h1 u) hi
     ⟨by have:=hp.len;simpa using this,λj c' v' hc hv=>hp.rv (j+1) c' v' hc hv⟩
    refine⟨vr,?_,e2,e3⟩;have y:=t.len;simp only[Array.length_toList]at y;have h2:=hr.len;simp only[Instr.fill,h3];rw[zh sg];have:=Ff s v.cells.toList 0 z;grind[Array.toList_zipIdx]
   .cases h
  .cases h
theorem F5:∀(x:List Field)(p:List (Nat×Nat)),xI P x=Y p->(x.mapM λf=>do pure (f.offset,<-Go.sizeOf f.type):Go.Sem (List (Nat×Nat))).run P w=.ok p w
 |[],p,h=>by simp[xI]at h;subst h;simp
 | f::r,p,h=>by
  simp only[xI]at h;split at h
  next n l s q=>cases h;have:=F5 r l q;simp_all[dv]
  .cases h
theorem VW{t:TypeId}{q:List (Nat×AV)}{vparts:List (Nat×Value)}{r:AV}(h:QY P t q=Y r)
  (hi:q.map (·.1)=vparts.map (·.1)) (hp:dn w U ρ (q.map (·.2)) (vparts.map (·.2))):
  ∃x,(Instr.build t vparts.toArray).run P w=.ok x w/\Rv w U ρ r x:=by
 have s:∀p,vu P t=Y (.agg p)->∃z:Value,(zeroValue t).run P w=.ok z w/\dn w U ρ p z.cells.toList/\∀v∈z.cells.toList,v.oneCell'=Z:=by
  intro p hz;unfold vu at hz;split at hz
  next i h1=>simp only[dV]at hz;have⟨z,y,h0⟩:=hz;have hr:=sZ (w:=w) (U:=U) (ρ:=ρ) z;rw[h0]at hr;have:=iM (w:=w) (U:=U) (ρ:=ρ) (av:=.agg p) rfl hr;exact⟨z,by simp[zeroValue,typeInfo,h1,y],this.1,this.2⟩
  .cases hz
 unfold QY at h;split at h
 .rename_i p fs hz hu;split at h
  .rename_i ps h4;simp only[dV]at h;obtain⟨r',h,rfl⟩:=h;have⟨z,y,h0,h2⟩:=s p hz;have⟨vr,e1,e2,e3⟩:=E8 q vparts _ _ _ h h0 h2 hi hp;refine⟨.agg vr,?_,?_⟩
   .simp only[Th]at e1;have hm:=F5 (w:=w) fs.toList ps h4;have u:(fs.mapM λf=>do pure (f.offset,<-Go.sizeOf f.type):Go.Sem (Array (Nat×Nat))).run P w=.ok ps.toArray w:=by
     rw[Array.mapM_eq_mapM_toList,Sem.run_map,hm];rfl
    have h3:Instr.fill (λx=>ps.toArray[x]?) z.cells vparts=Y vr:=by simpa using e1
    simp only[Instr.build,dB,y,qJ,bN hu,u,h3,Sem.run_pure]
   .have:=Rv.agg (w:=w) (U:=U) (ρ:=ρ) r' vr.toList e2.len e3 e2.rv;simpa using this
  .cases h
 .rename_i p h6 h5 hz hu;split at h
  .rename_i n hn;simp only[dV]at h;obtain⟨r',h,rfl⟩:=h;have⟨z,y,h0,h2⟩:=s p hz;have⟨vr,e1,e2,e3⟩:=E8 q vparts _ _ _ h h0 h2 hi hp;refine⟨.agg vr,?_,?_⟩
   .simp only[Th]at e1;simp[Instr.build,y,bN hu,dv hn,e1]
   .have:=Rv.agg (w:=w) (U:=U) (ρ:=ρ) r' vr.toList e2.len e3 e2.rv;simpa using this
  .cases h
 .cases h
end
end Cad
