/- The abstract machine. -/
import GoSem.Step
import Derived.KernelRfl
import Derived.WalkKit
import Derived.Deep.AppendSrc
import Derived.Laws.IdiomCopy
import Derived.MapKept
import Derived.Laws.StructEq
namespace Cad
open Go
open List renaming length→Io
open Bool renaming false→Q4,true→Q3
open Option renaming none→Q2,some→Q1
open Decidable renaming decide→Q0
abbrev _root_.Prod.q{α β γ:Type}(x:α×β×γ):γ:=x.2.2
abbrev _root_.Prod.t{α β γ δ ε:Type}(x:α×β×γ×δ×ε):ε:=x.2.2.2.2
theorem _root_.And.q{a b c:Prop}(h:a/\b/\c):c:=h.2.2
theorem _root_.And.t{a b c d e:Prop}(h:a/\b/\c/\d/\e):e:=h.2.2.2.2
theorem ow{p:Prop}(h:p:=by omega):p:=h
theorem sw{p:Prop}(h:p:=by simp):p:=h
theorem sg{p:Prop}(h:p:=by simp;omega):p:=h
theorem kw{p:Prop}(h:p:=by kernel_rfl):p:=h
theorem JK{p:Prop}(h:p:=by rfl):p:=h
abbrev Kh:List UInt8:=[100,101,108,101,116,101]
abbrev Ft:List UInt8:=[100,114,111,112]
abbrev kq:List UInt8:=[103,114,111,117,112]
abbrev H6:List UInt8:=[105,110,115,101,114,116]
abbrev eX:List UInt8:=[106,111,105,110]
abbrev kH:List UInt8:=[108,105,116]
abbrev mS:List UInt8:=[110,111,116]
abbrev pb:List UInt8:=[110,117,108,108]
abbrev uQ:List UInt8:=[111,114]
abbrev PA:List UInt8:=[114,101,97,100]
abbrev pO:List UInt8:=[115,101,108,101,99,116]
abbrev AR:List UInt8:=[117,110,114,101,97,100]
abbrev Cv:List UInt8:=[117,110,119,114,105,116,101]
abbrev pt:List UInt8:=[117,112,100,97,116,101]
abbrev xm:List UInt8:=[119,114,105,116,101]
abbrev AS:List UInt8:=[32,40,32]
abbrev zgI:List UInt8:=[32,41,32]
abbrev iv:List UInt8:=[32,41]
abbrev zuh:List UInt8:=[32,44,32,75,69,89,32,40,32]
abbrev zgJ:List UInt8:=[32,44,32,82,69,70,69,82,69,78,67,69,83,32,40,32]
abbrev zgK:List UInt8:=[32,44,32,85,78,73,81,85,69,32,40,32]
abbrev eZ:List UInt8:=[32,44,32]
abbrev zgL:List UInt8:=[32,61,32]
abbrev Nt:List UInt8:=[32,65,78,68,32]
abbrev RT:List UInt8:=[32,66,89,32]
abbrev Z2:List UInt8:=[32,67,72,69,67,75,32,40,32]
abbrev lg:List UInt8:=[32,70,82,79,77,32]
abbrev Cw:List UInt8:=[32,73,83,32,78,85,76,76,41]
abbrev zgM:List UInt8:=[32,78,79,84,32,78,85,76,76]
abbrev AT:List UInt8:=[32,79,78,32]
abbrev Nu:List UInt8:=[32,79,82,32]
abbrev Z3:List UInt8:=[32,83,69,84,32]
abbrev RU:List UInt8:=[32,83,85,77,32]
abbrev Nv:List UInt8:=[32,84,79,32]
abbrev Z4:List UInt8:=[32,86,65,76,85,69,83,32,40,32]
abbrev Z5:List UInt8:=[32,87,72,69,82,69,32]
abbrev nU:List UInt8:=[39,39]
abbrev zgN:List UInt8:=[40,41,44,61,60,43,45,42]
abbrev uO:List UInt8:=[40,78,79,84,32]
abbrev Uh:List UInt8:=[65,78,68]
abbrev Cx:List UInt8:=[66,79,79,76]
abbrev Fu:List UInt8:=[66,89]
abbrev KI:List UInt8:=[67,72,69,67,75,32,40,32]
abbrev ij:List UInt8:=[67,72,69,67,75]
abbrev RV:List UInt8:=[67,79,80,89]
abbrev Z6:List UInt8:=[67,82,69,65,84,69,32,84,65,66,76,69,32]
abbrev Z7:List UInt8:=[67,82,69,65,84,69]
abbrev Z8:List UInt8:=[68,69,76,69,84,69,32,70,82,79,77,32]
abbrev Z9:List UInt8:=[68,69,76,69,84,69]
abbrev zaa:List UInt8:=[68,82,79,80,32,84,65,66,76,69,32]
abbrev zab:List UInt8:=[68,82,79,80]
abbrev H7:List UInt8:=[70,65,76,83,69]
abbrev uP:List UInt8:=[70,82,79,77]
abbrev zl3:List UInt8:=[71,82,65,78,84,32,82,69,65,68,32,79,78,32]
abbrev zl4:List UInt8:=[71,82,65,78,84,32,87,82,73,84,69,32,79,78,32]
abbrev zgO:List UInt8:=[71,82,65,78,84,32]
abbrev zac:List UInt8:=[71,82,65,78,84]
abbrev RW:List UInt8:=[71,82,79,85,80]
abbrev Ui:List UInt8:=[73,78,83,69,82,84,32,73,78,84,79,32]
abbrev zad:List UInt8:=[73,78,83,69,82,84]
abbrev zae:List UInt8:=[73,78,84,79]
abbrev Cy:List UInt8:=[73,78,84]
abbrev RX:List UInt8:=[74,79,73,78]
abbrev zgP:List UInt8:=[75,69,89,32,40,32]
abbrev Uj:List UInt8:=[77,73,71,82,65,84,69,32,67,79,80,89,32]
abbrev zgQ:List UInt8:=[77,73,71,82,65,84,69,32,71,82,79,85,80,32]
abbrev zgR:List UInt8:=[77,73,71,82,65,84,69,32,74,79,73,78,32]
abbrev Uk:List UInt8:=[77,73,71,82,65,84,69,32]
abbrev zaf:List UInt8:=[77,73,71,82,65,84,69]
abbrev Fv:List UInt8:=[78,85,76,76]
abbrev Fw:List UInt8:=[79,78]
abbrev RY:List UInt8:=[82,69,65,68]
abbrev zl5:List UInt8:=[82,69,70,69,82,69,78,67,69,83]
abbrev zl6:List UInt8:=[82,69,86,79,75,69,32,82,69,65,68,32,79,78,32]
abbrev zl7:List UInt8:=[82,69,86,79,75,69,32,87,82,73,84,69,32,79,78,32]
abbrev zgS:List UInt8:=[82,69,86,79,75,69,32]
abbrev zag:List UInt8:=[82,69,86,79,75,69]
abbrev zl8:List UInt8:=[83,69,76,69,67,84,32,42,32,70,82,79,77,32,118,32,87,72,69,82,69,32]
abbrev zah:List UInt8:=[83,69,76,69,67,84,32,42,32,70,82,79,77,32]
abbrev zai:List UInt8:=[83,69,76,69,67,84]
abbrev Fx:List UInt8:=[83,85,77]
abbrev zaj:List UInt8:=[84,65,66,76,69]
abbrev Cz:List UInt8:=[84,69,88,84]
abbrev H8:List UInt8:=[84,82,85,69]
abbrev Ul:List UInt8:=[85,80,68,65,84,69,32]
abbrev zak:List UInt8:=[85,80,68,65,84,69]
abbrev zal:List UInt8:=[86,65,76,85,69,83]
abbrev gE:List UInt8:=[87,72,69,82,69]
abbrev em:List UInt8:=[97,110,100]
abbrev cX:List UInt8:=[99,111,108]
abbrev cT:List UInt8:=[99,111,112,121]
abbrev mT:List UInt8:=[99,114,101,97,116,101]
abbrev zD:=List UInt8
abbrev AQ:=@List.eq_nil_of_length_eq_zero
abbrev pp:=@Array.getD_eq_getD_getElem?
abbrev ea:=@Array.getElem?_eq_some_iff
abbrev aS:=@List.getD_eq_getElem?_getD
abbrev pq:=@List.getElem?_append_right
abbrev tB:=@Array.getElem?_eq_getElem
abbrev ke:=@Classical.byContradiction
abbrev fj:=@List.drop_eq_getElem_cons
abbrev mR:=@List.getElem?_append_left
abbrev dn:=@List.getElem?_eq_some_iff
abbrev zN:=@Bool.eq_false_or_eq_true
abbrev zU:=@List.getElem?_eq_getElem
abbrev gq:=@Option.bind_eq_some_iff
abbrev Cg:=@List.drop_eq_nil_of_le
abbrev Ch:=@List.take_of_length_le
abbrev lc:=@MapKept.run_getObj_map
abbrev yV:=@MapKept.run_setObj_map
abbrev eB:=@Option.map_eq_some_iff
abbrev Ci:=@World.frozen?_of_block
abbrev uF:=@Array.getElem?_modify
abbrev sS:=@Array.getElem?_toList
abbrev F2:=@List.contains_iff_mem
abbrev eC:=@List.getElem?_eq_none
abbrev Ps:=@Array.toArray_toList
abbrev mO:=@List.mem_cons_of_mem
abbrev pI:=@List.mem_of_getElem?
abbrev KB:=@MapKept.run_checkKey
abbrev fH:=@Nat.mul_le_mul_right
abbrev F3:=@Nat.pow_le_pow_right
abbrev Cj:=@List.getD_cons_succ
abbrev yW:=@List.getElem?_range
abbrev fz:=@List.getElem_of_mem
abbrev KC:=@MapKept.run_findKey
abbrev cd:=@beq_eq_false_iff_ne
abbrev zA:=@Bool.false_eq_true
abbrev F4:=@List.getElem?_drop
abbrev ip:=@List.length_append
abbrev uG:=@List.mem_cons_self
abbrev eD:=@List.mem_singleton
abbrev g7:=@Nat.lt_of_lt_of_le
abbrev F5:=@Option.isSome_some
abbrev KD:=@decide_eq_true_iff
abbrev sT:=@Bool.not_eq_true'
abbrev uH:=@Function.comp_def
abbrev Ck:=@Int.lt_trichotomy
abbrev aD:=@Int.toNat_natCast
abbrev uI:=@List.append_assoc
abbrev Cl:=@List.ext_getElem?
abbrev eL:=@List.getElem?_map
abbrev yX:=@List.getElem?_set
abbrev yY:=@Nat.succ_le_of_lt
abbrev bH:=@Option.some.injEq
abbrev pJ:=@Result.andThen_ok
abbrev jJ:=@bne_self_eq_false
abbrev aQ:=@decide_eq_true_eq
abbrev lZ:=@of_decide_eq_true
abbrev aE:=@Bool.and_eq_true
abbrev g8:=@Bool.not_eq_true
abbrev gr:=@IntKind.wrap_i64
abbrev ep:=@List.all_eq_true
abbrev jK:=@List.drop_length
abbrev aK:=@List.getElem_mem
abbrev dU:=@List.length_cons
abbrev o7:=@List.length_take
abbrev uJ:=@List.mem_flatMap
abbrev fI:=@List.take_length
abbrev Cm:=@MapKept.heap_set
abbrev F6:=@Nat.min_eq_right
abbrev dv:=@Option.getD_some
abbrev iY:=@Bool.eq_iff_iff
abbrev mP:=@Bool.or_eq_true
abbrev uK:=@Int.natCast_add
abbrev o8:=@List.append_nil
abbrev cz:=@List.length_map
abbrev iq:=@List.length_nil
abbrev gD:=@List.map_append
abbrev cJ:=@List.mem_append
abbrev pK:=@List.nil_append
abbrev F8:=@Nat.min_eq_left
abbrev yZ:=@Option.map_some
abbrev aq:=@decide_eq_false
abbrev cA:=@Bool.not_false
abbrev mQ:=@Comes.of_steps
abbrev F9:=@List.drop_drop
abbrev pL:=@List.mem_range
abbrev Ga:=@Nat.mul_le_mul
abbrev zx:=@decide_eq_true
abbrev bD:=@run_underlying
abbrev sU:=@Bool.and_self
abbrev bA:=@Bool.not_true
abbrev dV:=@Bool.true_and
abbrev iZ:=@List.map_cons
abbrev bL:=@List.mem_cons
abbrev cF:=@Prod.mk.injEq
abbrev pM:=@List.map_map
abbrev Co:=@List.map_nil
abbrev bd:=@List.mem_map
abbrev o9:=@Nat.add_comm
abbrev Aa:=@Nat.add_zero
abbrev bt:=@Nat.le_trans
abbrev tA:=@Nat.pow_succ
abbrev gT:=@Nat.succ_mul
abbrev ek:=@Nat.zero_add
abbrev cI:=@Sem.run_bind
abbrev pH:=@Sem.run_pure
abbrev nR:=@Nat.add_mul
abbrev ae:=@Nat.le_refl
abbrev aO:=@Nat.zero_le
abbrev mz:=@Array.ext'
abbrev bh:=@beq_iff_eq
abbrev ao:=@cond_false
abbrev af:=@cond_true
abbrev bG:=@eq_of_beq
inductive zf where
 |mk (op:zD) (v:Int×Int×zD) (s:zD) (l:List zf)
def zf.op:zf->zD
 |.mk o _ _ _=>o
def zf.v:zf->Int×Int×zD
 |.mk _ v _ _=>v
def zf.s:zf->zD
 |.mk _ _ s _=>s
def zf.l:zf->List zf
 |.mk _ _ _ l=>l
inductive Sh where
 |unit
 |bool
 |int (k:IntKind)
 |str
 |sl (e:Sh)
 |pr (a b:Sh)
 |expr
 deriving DecidableEq
@[reducible] def Sem:Sh->Type
 |.unit=>Unit
 |.bool=>Bool
 |.int _=>Int
 |.str=>zD
 |.sl e=>List (Sem e)
 |.pr a b=>Sem a×Sem b
 |.expr=>zf
def zi:(s:Sh)->Sem s
 |.unit=>()
 |.bool=>Q4
 |.int _=>(0:Int)
 |.str=>([]:zD)
 |.sl e=>([]:List (Sem e))
 |.pr a b=>(zi a,zi b)
 |.expr=>zf.mk [] (0,0,[]) [] []
def Sh.size:Sh->Nat
 |.unit=>0
 |.pr a b=>a.size+b.size
 |.expr=>6
 |_=>1
inductive AV where
 |any
 |kb (b:Bool)
 |bool (b:Bool)
 |int (k:IntKind) (n:Int)
 |str (s:zD)
 |nils
 |sl (e:Sh) (l:List (Sem e))
 |vec (id:Nat)
 |ptr (id off:Nat)
 |vptr (id sz i off:Nat)
 |eptr (cells:List AV) (off:Nat)
 |nilp
 |agg (cells:List AV)
 |tup (vs:List AV)
 |clo (fn:Fn) (first caps:List AV)
 |nilf
 |mp (id:Nat)
 |ifc (aT:Bool)
 |tab (k:IntKind) (zs:List Int)
 |gint
abbrev ai(n:Int):AV:=.int .i64 n
abbrev ny:AV:=.any
def zu:(s:Sh)->Sem s->List AV
 |.unit,_=>[]
 |.bool,b=>[.bool b]
 |.int k,n=>[.int k n]
 |.str,s=>[.str s]
 |.sl e,l=>[.sl e l]
 |.pr a b,x=>zu a x.1++zu b x.2
 |.expr,e=>[.str e.op,.int .i64 e.v.1,.int .i64 e.v.2.1,.str e.v.2.2,.str e.s,.sl .expr e.l]
inductive AO where
 |dead
 |box (cells:List AV)
 |vec (e:Sh) (l:List (Sem e))
 |frz (e:Sh) (l:List (Sem e))
 |fmap (es:List (zD×AV))
 |vmap (u:Bool) (es:List ((Int×Int×zD)×Int))
inductive Tr (α:Type) where
 |err
 |chk (c:Bool) (t:Tr α)
 |br (c:Bool) (t f:Tr α)
 |ok (a:α)
def Tr.val{α:Type}:Tr α->Option α
 |.err=>Q2
 |.chk c t=>if c then t.val else Q2
 |.br c t f=>if c then t.val else f.val
 |.ok a=>Q1 a
def Tr.bind{α β:Type}:Tr α->(α->Tr β)->Tr β
 |.err,_=>.err
 |.chk c t,k=>.chk c (t.bind k)
 |.br c t f,k=>.br c (t.bind k) (f.bind k)
 |.ok a,k=>k a
structure fT where
 val:AV
 wr:List (Nat×AO):=[]
 nw:List AO:=[]
abbrev zZ:=List AV->(Nat->AO)->Nat->Tr fT
structure bZ where
 P:Program
 sh:TypeId->Option Sh
 gl:Nat->AV
 F:FuncId->Option zZ
 own:Bool:=Q4
structure St where
 tmps:List AV
 heap:List AO
def St.hp(st:St)(id:Nat):AO:=st.heap.getD id .dead
def xj(hp:Nat->AO)(e:Sh):AV->Option (List (Sem e))
 |.nils=>Q1 []
 |.sl o l=>if h:o=e then Q1 (h▸l)else Q2
 | .vec id=>match hp id with
  |.vec o l=>if h:o=e then Q1 (h▸l)else Q2
  |.frz o l=>if h:o=e then Q1 (h▸l)else Q2
  |_=>Q2
 |_=>Q2
def vy(hp:Nat->AO):List AV->Option (zf×List AV)
 | .str o::.int .i64 k::.int .i64 i::.str vs::.str s::c::r=>match xj hp .expr c with
  |some l=>Q1 (zf.mk o (k,i,vs) s l,r)
  |none=>Q2
 |_=>Q2
def cV(hp:Nat->AO):(s:Sh)->List AV->Option (Sem s×List AV)
 |.unit,cs=>Q1 ((),cs)
 |.bool,.bool b::r=>Q1 (b,r)
 |.bool,.kb b::r=>Q1 (b,r)
 |.int k,.int h n::r=>if h=k then Q1 (n,r)else Q2
 |.str,.str s::r=>Q1 (s,r)
 | .sl e,c::r=>match xj hp e c with
  |some l=>Q1 (l,r)
  |none=>Q2
 | .pr a b,cs=>match cV hp a cs with
  | some (x,r)=>match cV hp b r with
   |some (y,o)=>Q1 ((x,y),o)
   |none=>Q2
  |none=>Q2
 |.expr,cs=>vy hp cs
 |_,_=>Q2
def cellsOf:AV->Option (List AV)
 |.any=>Q2
 |.tup _=>Q2
 |.agg cs=>Q1 cs
 |v=>Q1 [v]
def Sh.isAgg:Sh->Bool
 |.pr _ _|.expr|.unit=>Q3
 |_=>Q4
def AV.isAgg:AV->Bool
 |.agg _=>Q3
 |_=>Q4
def Ab(hp:Nat->AO)(s:Sh)(v:AV):Option (Sem s):=
 if s.isAgg==v.isAgg then match cellsOf v with
  | some cs=>match cV hp s cs with
   |some (x,[])=>Q1 x
   |_=>Q2
  |none=>Q2
 else Q2
def zC(s:Sh)(x:Sem s):AV:=
 match s.isAgg with
 |true=>.agg (zu s x)
 |false=>(zu s x).headD .any
def N9(k:IntKind)(n:Int):Bool:=match k with
 |.i8=>Q0 (-128<=n)&&Q0 (n<=127)
 |.i16=>Q0 (-32768<=n)&&Q0 (n<=32767)
 |.i32=>Q0 (-2147483648<=n)&&Q0 (n<=2147483647)
 |.i64=>Q0 (-9223372036854775808<=n)&&Q0 (n<=9223372036854775807)
 |.u8=>Q0 (0<=n)&&Q0 (n<=255)
 |.u16=>Q0 (0<=n)&&Q0 (n<=65535)
 |.u32=>Q0 (0<=n)&&Q0 (n<=4294967295)
 |.u64=>Q0 (0<=n)&&Q0 (n<=18446744073709551615)
def Ky:Value->AV
 |.bool b=>.kb b
 |.int k n=>if N9 k n then .int k n else .any
 |.string s=>if s.data.toList.length<=1000000 then .str s.data.toList else .any
 |.slice Q2 0 0=>.nils
 |.pointer Q2=>.nilp
 |.nilFunc=>.nilf
 |.nilIface=>.ifc Q3
 |_=>.any
def zpB:Value->Bool
 |.agg _|.tuple _=>Q4
 |_=>Q3
def Cf:Value->AV
 |.agg cs=>if cs.toList.all zpB then .agg (cs.toList.map Ky)else .any
 |v=>Ky v
def rF(c:Bool):AV->AV->Option AV
 |.bool a,.bool b=>Q1 (.bool (cond c a b))
 |.bool a,.kb b=>Q1 (.bool (cond c a b))
 |.kb a,.bool b=>Q1 (.bool (cond c a b))
 |.kb a,.kb b=>Q1 (.bool (cond c a b))
 |.int k a,.int h b=>if k=h then Q1 (.int k (cond c a b))else Q2
 |.str a,.str b=>Q1 (.str (cond c a b))
 |_,_=>Q2
def fR(P:Program)(t:TypeId):Option Nat:=(P.info? t).map (·.size)
def wY(P:Program)(t:TypeId):Option AV:=match P.info? t with
 |some i=>i.zero.map Cf
 |none=>Q2
def E8(P:Program)(t:TypeId):Option Bool:=match P.underlying t with
 |some (.struct _)|some (.array _ _)=>Q1 Q3
 |some _=>Q1 Q4
 |none=>Q2
def Yz(P:Program)(t:TypeId):Option (List AV):=match P.info? t with
 | some i=>match i.zero with
  |some (.map Q2)=>Q1 [.any]
  |some z=>cellsOf (Cf z)
  |none=>Q2
 |none=>Q2
def tg(P:Program)(t:TypeId)(cs:List AV)(o:Nat):Option AV:=
 match E8 P t,fR P t with
 |some Q3,Q1 n=>if o+n<=Io cs then Q1 (.agg ((cs.drop o).take n))else Q2
 |some Q4,_=>cs[o]?
 |_,_=>Q2
def setCells(cs:List AV)(o:Nat):List AV->List AV
 |[]=>cs
 |v::r=>setCells (cs.set o v) (o+1) r
def ret(v:AV):Tr fT:=.ok {val:=v}
def FH:Option AV->Tr fT
 |some v=>ret v
 |none=>.err
def Bj(P:Program)(t:TypeId)(f:Nat):Option Field:=match P.underlying t with
 |some (.struct h)=>h[f]?
 |_=>Q2
def zJ(n:Int)(h:Nat):Bool:=Q0 (0<=n)&&Q0 (n<h)
def cU:AV->List Nat
 |.vec id=>[id]
 |_=>[]
def Do:AO->AO
 |.vec e l=>.frz e l
 |o=>o
def py:AO->Bool
 |.vec _ _|.frz _ _=>Q3
 |_=>Q4
def gy(hp:Nat->AO)(h:List Nat):List (Nat×AO):=h.map λid=>(id,Do (hp id))
def eqT(P:Program)(t:TypeId)(x y:AV):Option Bool:=
 match P.underlying t,x,y with
 |some (.int _),.int k a,.int h b=>if k=h then Q1 (a==b)else Q2
 |some .string,.str a,.str b=>Q1 (a==b)
 |some .bool,.bool a,.bool b=>Q1 (a==b)
 |some .bool,.bool a,.kb b=>Q1 (a==b)
 |some .bool,.kb a,.bool b=>Q1 (a==b)
 |some .bool,.kb a,.kb b=>Q1 (a==b)
 |_,_,_=>Q2
def Fy(P:Program):List Field->Nat->List AV->List AV->Option Bool
 |[],_,[],[]=>Q1 Q3
 | f::fs,i,a::xs,b::ys=>if f.name != "_" && f.offset==i then match eqT P f.type a b,Fy P fs (i+1) xs ys with
   |some r,Q1 s=>Q1 (r&&s)
   |_,_=>Q2
  else Q2
 |_,_,_,_=>Q2
def eqA(P:Program)(t:TypeId)(x y:AV):Option Bool:=
 match x,y with
 | .agg a,.agg b=>match P.underlying t with
  |some (.struct h)=>if !P.stoodInHeld t&&!P.eqGuardType P.depth t then Fy P h.toList 0 a b else Q2
  |_=>Q2
 |x,y=>eqT P t x y
def zgG(o:BinOp)(k:IntKind)(a b:Int):Tr fT:=
 match o with
 |.add=>ret (.int k (k.wrap (a+b)))
 |.sub=>ret (.int k (k.wrap (a-b)))
 |.mul=>ret (.int k (k.wrap (a*b)))
 |.quo=>.chk (b !=0) (ret (.int k (k.wrap (a.tdiv b))))
 |.rem=>.chk (b !=0) (ret (.int k (k.wrap (a.tmod b))))
 |.shr=>.chk (b==1) (ret (.int k (a/2)))
 |.eql=>ret (.bool (a==b))
 |.neq=>ret (.bool (a !=b))
 |.lss=>ret (.bool (Q0 (a<b)))
 |.leq=>ret (.bool (Q0 (a<=b)))
 |.gtr=>ret (.bool (Q0 (a>b)))
 |.geq=>ret (.bool (Q0 (a>=b)))
 |_=>.err
def zgH(o:BinOp)(a b:zD):Tr fT:=
 match o with
 |.add=>.chk (Q0 (Io a+Io b<=1099511627776)) (ret (.str (a++b)))
 |.eql=>ret (.bool (a==b))
 |.neq=>ret (.bool (!(a==b)))
 |.lss=>ret (.bool (Op.bytesLess a b))
 |.leq=>ret (.bool (Op.bytesLess a b||a==b))
 |.gtr=>ret (.bool (!(Op.bytesLess a b||a==b)))
 |.geq=>ret (.bool (!Op.bytesLess a b))
 |_=>.err
def zgF(P:Program)(o:BinOp)(t:TypeId)(x y:AV):Tr fT:=
 match o with
 | .eql=>match eqA P t x y with
  |some r=>ret (.bool r)
  |none=>.err
 | .neq=>match eqA P t x y with
  |some r=>ret (.bool (!r))
  |none=>.err
 |_=>.err
def zgE(P:Program)(o:BinOp)(t:TypeId)(x y:AV):Tr fT:=
 match x,y with
 |.int k a,.int h b=>if k=h then zgG o k a b else .err
 |.str a,.str b=>zgH o a b
 |x,y=>zgF P o t x y
def G1(o:Nat->Option (Nat×Nat))(h:List AV):List (Nat×AV)->Option (List AV)
 |[]=>Q1 h
 | (i,v)::rest=>match o i,cellsOf v with
  |some (u,z),Q1 cs=>if Io cs=z/\u+Io cs<=Io h then G1 o (setCells h u cs) rest else Q2
  |_,_=>Q2
def vN(P:Program):List Field->Option (List (Nat×Nat))
 |[]=>Q1 []
 | f::r=>match fR P f.type,vN P r with
  |some n,Q1 l=>Q1 ((f.offset,n)::l)
  |_,_=>Q2
def Nw(P:Program)(t:TypeId)(parts:List (Nat×AV)):Option AV:=
 match wY P t,P.underlying t with
 | some (.agg z),Q1 (.struct o)=>
  match vN P o.toList with
  |some ps=>(G1 (λi=>ps[i]?) z parts).map .agg
  |none=>Q2
 | some (.agg z),Q1 (.array _ h)=>match fR P h with
  |some n=>(G1 (λi=>Q1 (i*n,n)) z parts).map .agg
  |none=>Q2
 |_,_=>Q2
def xv(hp:Nat->AO)(e:Sh):List AV->Option (List (Sem e))
 |[]=>Q1 []
 | v::r=>match Ab hp e v,xv hp e r with
  |some x,Q1 l=>Q1 (x::l)
  |_,_=>Q2
def vz:Nat->List (Nat×AV)->Bool
 |_,[]=>Q3
 |n,(i,_)::r=>i==n&&vz (n+1) r
def Iv(P:Program)(hp:Nat->AO)(t:TypeId):AV->Tr fT
 | .ptr id o=>match hp id with
  |.box cs=>FH (tg P t cs o)
  |_=>.err
 |.eptr cs o=>FH (tg P t cs o)
 | .vptr id sz i o=>match hp id with
  |.vec e l=>if e.size=sz then .chk (Q0 (i<Io l)) (FH (tg P t (zu e (l.getD i (zi e))) o))else .err
  |_=>.err
 |_=>.err
def Iw(P:Program)(hp:Nat->AO)(t:TypeId)(a x:AV):Tr fT:=
 match cellsOf x,fR P t with
 | some vs,Q1 sz=>if Io vs=sz then match a with
   | .ptr id off=>match hp id with
    |.box cs=>if off+sz<=Io cs then .ok {val:=.tup [],wr:=[(id,.box (setCells cs off vs))]}else .err
    |_=>.err
   | .vptr id sz' i off=>match hp id with
    | .vec e l=>if e.size=sz'∧off+sz≤sz'∧(vs.flatMap cU).all (fun j=>py (hp j)&&j != id) then match cV hp e (setCells (zu e (l.getD i (zi e))) off vs) with
      |some (x,[])=>.chk (Q0 (i<Io l)) (.ok {val:=.tup [],wr:=(id,.vec e (l.set i x))::gy hp (vs.flatMap cU)})
      |_=>.err
     else .err
    |_=>.err
   |_=>.err
  else .err
 |_,_=>.err
def It(P:Program)(t:TypeId)(f:Nat)(x:AV):Tr fT:=
 match Bj P t f with
 | some h=>match fR P h.type with
  | some (_+1)=>match x with
   |.ptr id o=>ret (.ptr id (o+h.offset))
   |.eptr cs o=>ret (.eptr cs (o+h.offset))
   |.vptr id sz i o=>ret (.vptr id sz i (o+h.offset))
   |_=>.err
  |_=>.err
 |none=>.err
def RO(k:Int)(f:Nat->AV):Nat->Nat->Tr fT
 |_,0=>.err
 |i,1=>ret (f i)
 |i,n+2=>.br (k==(i:Int)) (ret (f i)) (RO k f (i+1) (n+1))
def pZ(P:Program)(hp:Nat->AO)(t:TypeId)(x i:AV):Tr fT:=
 match i with
 | .int _ k=>match P.underlying t with
  | some (.slice h)=>match x with
   |.sl e l=>if fR P h=Q1 e.size then .chk (zJ k (Io l)) (ret (.eptr (zu e (l.getD k.toNat (zi e))) 0))else .err
   | .vec id=>match hp id with
    |.vec e l=>if fR P h=Q1 e.size then .chk (zJ k (Io l)) (ret (.vptr id e.size k.toNat 0))else .err
    |.frz e l=>if fR P h=Q1 e.size then .chk (zJ k (Io l)) (ret (.eptr (zu e (l.getD k.toNat (zi e))) 0))else .err
    |_=>.err
   |_=>.err
  | some (.array o h)=>match fR P h with
   | some sz=>match x with
    |.ptr id u=>.chk (zJ k o) (ret (.ptr id (u+k.toNat*sz)))
    |.eptr cs u=>.chk (zJ k o) (RO k (λi=>.eptr cs (u+i*sz)) 0 o)
    |_=>.err
   |none=>.err
  |_=>.err
 |_=>.err
def Iu(P:Program)(t:TypeId)(x i:AV):Tr fT:=
 match i with
 | .int _ k=>match P.underlying t,x with
  |some .string,.str s=>.chk (zJ k (Io s)) (ret (.int .u8 (s.getD k.toNat 0).toNat))
  | some (.array o h),.agg cs=>match fR P h with
   | some sz=>match tg P h cs (k.toNat * sz) with
    |some v=>.chk (zJ k o) (ret v)
    |none=>.err
   |none=>.err
  |_,_=>.err
 |_=>.err
def dP(v:AV):List Nat:=match cellsOf v with
 |some cs=>cs.flatMap cU
 |none=>[]
def oh(E:bZ)(hp:Nat->AO)(t:TypeId)(o:Nat)(ps:List (Nat×AV)):Tr fT:=
 match E.P.underlying t with
 | some (.slice h)=>match o with
  |0=>if ps.isEmpty&&(fR E.P h).isSome then ret .nils else .err
  | _=>match E.sh h with
   | some e=>
    if Io ps=o&&vz 0 ps&&Q0 (o*e.size<=100000)&&(ps.flatMap λp=>dP p.2).all (λj=>py (hp j))then match xv hp e (ps.map (·.2))with
     |some l=>.ok {val:=.sl e l,wr:=gy hp (ps.flatMap λp=>dP p.2)}
     |none=>.err
    else .err
   |none=>.err
 |_=>.err
def tV(E:bZ)(hp:Nat->AO)(n:Nat)(t:TypeId)(h:Nat)(ps:List (Nat×AV)):Tr fT:=
 match E.P.underlying t with
 | some (.slice o)=>match E.sh o with
  | some e=>
   if Io ps=h&&vz 0 ps&&Q0 (0<h)&&Q0 (h*e.size<=100000)&&(ps.flatMap λp=>dP p.2).isEmpty then match xv hp e (ps.map (·.2))with
    |some l=>.ok {val:=.vec n,nw:=[.vec e l]}
    |none=>.err
   else .err
  |none=>.err
 |_=>.err
def pN:AV->Option Int
 |.int _ k=>Q1 k
 |_=>Q2
def vn(P:Program)(t:TypeId)(x:AV)(z u B:Option AV):Tr fT:=
 match P.underlying t,x,B with
 | some .string,.str s,Q2=>
  match(match z with|none=>Q1 0|some a=>pN a),(match u with|none=>Q1 (Io s:Int)|some a=>pN a)with
  |some l,Q1 h=>.chk (Q0 (0<=l)&&Q0 (l<=h)&&Q0 (h<=Io s)) (ret (.str ((s.drop l.toNat).take (h.toNat-l.toNat))))
  |_,_=>.err
 | some (.slice o),.sl e s,Q2=>if fR P o=Q1 e.size then
   match(match z with|none=>Q1 0|some a=>pN a),(match u with|none=>Q1 (Io s:Int)|some a=>pN a)with
   |some l,Q1 h=>.chk (Q0 (0<=l)&&Q0 (l<=h)&&Q0 (h<=Io s)) (ret (.sl e ((s.drop l.toNat).take (h.toNat-l.toNat))))
   |_,_=>.err
  else .err
 | some (.slice o),.sl _ _,Q1 (.int _ 0)=>match z,u with
  |none,Q1 (.int _ 0)=>if(fR P o).isSome then ret .nils else .err
  |_,_=>.err
 | some (.slice o),.nils,Q1 (.int _ 0)=>match z,u with
  |none,Q1 (.int _ 0)=>if(fR P o).isSome then ret .nils else .err
  |_,_=>.err
 |_,_,_=>.err
def Db(P:Program)(hp:Nat->AO)(t:TypeId)(x:AV)(o h u:Option AV):Tr fT:=
 match x with
 | .vec id=>match hp id with
  |.vec e l=>(vn P t (.sl e l) o h u).bind λf=>.ok {val:=f.val,wr:=gy hp [id]}
  |.frz e l=>vn P t (.sl e l) o h u
  |_=>.err
 |x=>vn P t x o h u
def Vm(P:Program)(hp:Nat->AO)(t:TypeId)(x:AV):Tr fT:=
 match P.underlying t with
 | some .string=>match x with
  |.str s=>ret (.int .i64 (Io s))
  |_=>.err
 | some (.slice _)=>match x with
  |.nils=>ret (.int .i64 0)
  |.sl _ l=>ret (.int .i64 (Io l))
  | .vec id=>match hp id with
   |.vec _ l=>ret (.int .i64 (Io l))
   |.frz _ l=>ret (.int .i64 (Io l))
   |_=>.err
  |_=>.err
 | some (.map _ _)=>match x with
  | .mp id=>match hp id with
   |.vmap _ es=>.chk (Q0 (Io es<=1073741824)) (ret (.int .i64 (Io es)))
   |_=>.err
  |_=>.err
 |_=>.err
def vg(E:bZ)(hp:Nat->AO)(n:Nat)(o:TypeId)(b x:AV):Tr fT:=
 match E.sh o,b with
 | some e,.nils=>match xj hp e x with
  |some l=>.chk (Q0 (Io l<=1073741824)) (.ok {val:=.vec n,nw:=[.vec e l]})
  |none=>.err
 | some e,.vec id=>match hp id with
  | .vec B z=>if h:B=e then match xj hp e x with
    |some u=>.chk (Q0 (Io z+Io u<=1073741824)) (.ok {val:=.vec n,wr:=[(id,.dead)],nw:=[.vec e ((h▸z:List (Sem e))++u)]})
    |none=>.err
   else .err
  |_=>.err
 |_,_=>.err
def P6(es:List (zD×AV))(s:zD)(z:Tr fT):Tr fT:=match es with
 |[]=>z
 |(k,v)::r=>.br (s==k) (ret v) (P6 r s z)
def IL(es:List (zD×AV))(s:zD)(z:Tr fT):Tr fT:=match es with
 |[]=>z
 |(k,v)::r=>.br (s==k) (ret (.tup [v,.kb Q3])) (IL r s z)
def Tu:AV->Option (Int×Int×zD)
 |.agg [.int .i64 a,.int .i64 b,.str s]=>Q1 (a,b,s)
 |_=>Q2
def ziN:Bool->AV->Option Int
 |false,.int .i64 n=>Q1 n
 |true,.agg []=>Q1 0
 |_,_=>Q2
def nM(es:List ((Int×Int×zD)×Int))(k:Int×Int×zD):Bool:=es.any λp=>k==p.1
def gB(es:List ((Int×Int×zD)×Int))(k:Int×Int×zD):Int:=((es.find? λp=>k==p.1).map (·.2)).getD 0
def kG(es:List ((Int×Int×zD)×Int))(k:Int×Int×zD)(x:Int):List ((Int×Int×zD)×Int):=match es with
 |[]=>[(k,x)]
 |p::r=>bif k==p.1 then(k,x)::r else p::kG r k x
def jZ(es:List ((Int×Int×zD)×Int))(k:Int×Int×zD):List ((Int×Int×zD)×Int):=bif nM es k then es else es++[(k,0)]
def lT(es:List ((Int×Int×zD)×Int))(k:Int×Int×zD):Nat:=match es with
 |[]=>0
 |p::r=>bif k==p.1 then 0 else lT r k+1
def ko(es:List ((Int×Int×zD)×Int))(n:Nat)(x:Int):List ((Int×Int×zD)×Int):=match es,n with
 |[],_=>[]
 |p::r,0=>(p.1,x)::r
 |p::r,n+1=>p::ko r n x
def ID(P:Program)(t:TypeId):Bool:=match P.underlying t with
 |some (.int _)=>Q3
 |_=>Q4
def Ob(P:Program)(t:TypeId):Bool:=match P.underlying t with
 |some .string=>Q3
 |_=>Q4
def nL(P:Program)(z:TypeId):Bool:=match P.underlying z with
 | some (.struct B) => !P.stoodInHeld z && !P.eqGuardType P.depth z&&(match B.toList with
  |[h,o,u]=>h.name !="_"&&h.offset==0&&ID P h.type&&(o.name !="_"&&o.offset==1&&ID P o.type)&&(u.name !="_"&&u.offset==2&&Ob P u.type)
  |_=>Q4)
 |_=>Q4
def WC(P:Program)(t:TypeId):Option AO:=match P.underlying t with
 | some (.map h o)=>match P.underlying h with
  |some .string=>Q1 (.fmap [])
  | _=>if nL P h then match P.underlying o with
    |some (.int .i64)=>Q1 (.vmap Q4 [])
    |some (.struct u)=>if u.size=0 then Q1 (.vmap Q3 [])else Q2
    |_=>Q2
   else Q2
 |_=>Q2
def vl(P:Program)(hp:Nat->AO)(t:TypeId)(m k x:AV):Tr fT:=
 match P.underlying t with
 | some (.map h _)=>match P.underlying h with
  | some .string=>match m,k with
   | .mp id,.str s=>match hp id with
    |.fmap es=>.chk (!(es.any λp=>p.1==s)) (.ok {val:=.tup [],wr:=[(id,.fmap (es++[(s,x)]))]})
    |_=>.err
   |_,_=>.err
  | some (.struct _)=>if nL P h then match m,Tu k with
    | .mp id,Q1 v=>match hp id with
     | .vmap u es=>match ziN u x with
      |some n=>.ok {val:=.tup [],wr:=[(id,.vmap u (kG es v n))]}
      |none=>.err
     |_=>.err
    |_,_=>.err
   else .err
  |_=>.err
 |_=>.err
def vj(P:Program)(hp:Nat->AO)(t:TypeId)(m k:AV):Tr fT:=
 match P.underlying t with
 | some (.map o h)=>if nL P o then match m,Tu k with
   | .mp id,Q1 v=>match hp id with
    | .vmap Q4 es=>match wY P h with
     |some (.int .i64 z)=>if z=0 then .chk (Q0 (Io es<=1073741824)) (.ok {val:=.tup [.int .i64 (gB es v),.int .i64 (lT es v)],wr:=[(id,.vmap Q4 (jZ es v))]})else .err
     |_=>.err
    |_=>.err
   |_,_=>.err
  else .err
 |_=>.err
def ol(hp:Nat->AO)(m s x:AV):Tr fT:=
 match m,s,x with
 | .mp id,.int .i64 n,.int .i64 y=>match hp id with
  |.vmap Q4 es=>.chk (zJ n (Io es)) (.ok {val:=.tup [],wr:=[(id,.vmap Q4 (ko es n.toNat y))]})
  |_=>.err
 |_,_,_=>.err
def zev(P:Program)(h:TypeId):Tr fT:=match wY P h with
 |some z=>ret (.tup [z,.kb Q4])
 |none=>.err
def lr(P:Program)(hp:Nat->AO)(t:TypeId)(x i:AV)(two:Bool):Tr fT:=
 match P.underlying t with
 | some (.map o h)=>match P.underlying o with
  | some .string=>match x,i with
   | .mp id,.str s=>match hp id with
    |.fmap es=>if two then IL es s (zev P h)else P6 es s (FH (wY P h))
    |_=>.err
   |_,_=>.err
  | some (.struct _)=>if nL P o then match x,Tu i with
    | .mp id,Q1 v=>match hp id with
     | .vmap u es=>match wY P h with
      |some (.int .i64 z)=>if u=Q4/\z=0 then ret (ite two (.tup [.int .i64 (gB es v),.bool (nM es v)]) (.int .i64 (gB es v)))else .err
      |some (.agg cs)=>if u=Q3/\cs.isEmpty=Q3 then ret (ite two (.tup [.agg [],.bool (nM es v)]) (.agg []))else .err
      |_=>.err
     |_=>.err
    |_,_=>.err
   else .err
  |_=>.err
 |_=>.err
def Vl(E:bZ)(o:Operand->AV)(hp:Nat->AO)(n:Nat)(c:Call):Tr fT:=
 match c.callee with
 | .value f=>match o f with
  | .clo (.func k) first caps=>match E.F k with
   |some F=>F (first++c.args.toList.map o++caps) hp n
   |none=>.err
  |_=>.err
 | .builtin .len=>match c.args.toList.map o,c.argTypes.toList with
  |[x],[t]=>Vm E.P hp t x
  |_,_=>.err
 | .builtin .append=>match c.args.toList.map o,c.argTypes.toList with
  | [b,x],[t,u]=>match E.P.underlying t,E.P.underlying u with
   |some (.slice h),Q1 (.slice _)=>vg E hp n h b x
   |_,_=>.err
  |_,_=>.err
 |_=>.err
def jf(l:List Int):zD:=l.map λn=>UInt8.ofNat n.toNat
def Ir(P:Program)(h:TypeId):AV->Tr fT
 | .sl (.int .u8) l=>match P.underlying h with
  |some (.int .u8)=>ret (.str (jf l))
  |_=>.err
 |_=>.err
def qa(E:bZ)(h:Operand->AV)(hp:Nat->AO)(n:Nat)(o:Oper):Tr fT:=
 match o.op with
 |.move x|.assign x=>ret (h x)
 | .pick c a b=>match h c with
  |.kb Q3=>ret (h a)
  |.kb Q4=>ret (h b)
  |.bool x=>FH (rF x (h a) (h b))
  |_=>.err
 | .box _ x=>match cellsOf (h x) with
  |some cs=>.ok {val:=.ptr n 0,nw:=[.box cs]}
  |none=>.err
 | .alloc t=>match Yz E.P t with
  |some cs=>.ok {val:=.ptr n 0,nw:=[.box cs]}
  |none=>.err
 |.load t a=>Iv E.P hp t (h a)
 |.store t a x=>Iw E.P hp t (h a) (h x)
 |.fieldAddr t x f=>It E.P t f (h x)
 | .field t x f=>match Bj E.P t f,h x with
  |some C,.agg cs=>FH (tg E.P C.type cs C.offset)
  |_,_=>.err
 |.indexAddr t x i=>pZ E.P hp t (h x) (h i)
 |.index t x i=>Iu E.P t (h x) (h i)
 |.build t parts=>FH (Nw E.P t (parts.toList.map λp=>(p.1,h p.2)))
 | .buildSlice t u parts=>match E.own with
  |true=>tV E hp n t u (parts.toList.map λp=>(p.1,h p.2))
  |false=>oh E hp t u (parts.toList.map λp=>(p.1,h p.2))
 |.binOp I t x y _=>zgE E.P I t (h x) (h y)
 | .unOp .not _ x=>match h x with
  |.bool b=>ret (.bool (!b))
  |.kb b=>ret (.kb (!b))
  |_=>.err
 | .unOp .neg _ x=>match h x with
  |.int k a=>ret (.int k (k.wrap (0-a)))
  |_=>.err
 | .convert B z x=>match E.P.underlying B,E.P.underlying z,h x with
  |some _,Q1 (.int k),.int _ a=>ret (.int k (k.wrap a))
  |some _,Q1 .string,.str s=>ret (.str s)
  |some (.slice D),Q1 .string,.sl e l=>Ir E.P D (.sl e l)
  |_,_,_=>.err
 |.slice t x G F H=>Db E.P hp t (h x) (G.map h) (F.map h) (H.map h)
 | .extract x i=>match h x with
  |.tup vs=>FH vs[i]?
  |_=>.err
 |.makeFunc fn first caps=>ret (.clo fn (first.toList.map h) (caps.toList.map h))
 | .nilCheck x=>match h x with
  |.ptr a b=>ret (.ptr a b)
  |.eptr a b=>ret (.eptr a b)
  |.vptr a b c d=>ret (.vptr a b c d)
  |.clo (.func f) a b=>ret (.clo (.func f) a b)
  |_=>.err
 |.call c=>Vl E h hp n c
 | .makeMap t Q2=>match WC E.P t with
  |some o=>.ok {val:=.mp n,nw:=[o]}
  |none=>.err
 |.insert t m k x=>vl E.P hp t (h m) (h k) (h x)
 |.mapUpdate t m k x=>vl E.P hp t (h m) (h k) (h x)
 |.lookup t x i two=>lr E.P hp t (h x) (h i) two
 |.mapEntry t m k=>vj E.P hp t (h m) (h k)
 |.entryStore _ m s x=>ol hp (h m) (h s) (h x)
 |_=>.err
mutual
def AV.ids:AV->List Nat
 |.vec id|.ptr id _|.vptr id _ _ _|.mp id=>[id]
 |.eptr cs _|.agg cs|.tup cs=>AV.idsL cs
 |.clo _ a b=>AV.idsL a++AV.idsL b
 |_=>[]
def AV.idsL:List AV->List Nat
 |[]=>[]
 |v::r=>v.ids++AV.idsL r
end
mutual
def AV.ren(f:Nat->Nat):AV->AV
 |.vec id=>.vec (f id)
 |.ptr id o=>.ptr (f id) o
 |.vptr id sz i o=>.vptr (f id) sz i o
 |.mp id=>.mp (f id)
 |.eptr cs o=>.eptr (AV.renL f cs) o
 |.agg cs=>.agg (AV.renL f cs)
 |.tup cs=>.tup (AV.renL f cs)
 |.clo g a b=>.clo g (AV.renL f a) (AV.renL f b)
 |v=>v
def AV.renL(f:Nat->Nat):List AV->List AV
 |[]=>[]
 |v::r=>v.ren f::AV.renL f r
end
def AO.ids:AO->List Nat
 |.box cs=>AV.idsL cs
 |.fmap es=>AV.idsL (es.map (·.2))
 |_=>[]
def AO.ren(f:Nat->Nat):AO->AO
 |.box cs=>.box (AV.renL f cs)
 |.fmap es=>.fmap (es.map λp=>(p.1,p.2.ren f))
 |o=>o
def kx(hp:Nat->AO):Nat->List Nat->List Nat->List Nat
 |0,_,h=>h
 |_+1,[],h=>h
 |n+1,i::r,h=>if h.contains i then kx hp n r h else kx hp n (r++(hp i).ids) (h++[i])
def iF:Op->Bool
 |.load ..|.store ..|.indexAddr ..|.buildSlice ..|.slice ..|.call _|.insert ..|.mapUpdate ..|.lookup ..|.mapEntry ..|.entryStore ..=>Q3
 |_=>Q4
def tM:Op->Bool
 |.call _=>Q3
 |_=>Q4
def vq(hp:Nat->AO)(h:Operand->AV)(o:Oper):List Nat:=
 if tM o.op then kx hp 400 (AV.idsL (o.op.operands.toList.map h)) []else if iF o.op then AV.idsL (o.op.operands.toList.map h)else[]
def Lr(hp:Nat->AO)(h:Operand->AV)(o:Oper):Bool:=
 !iF o.op||(AV.idsL (o.op.operands.toList.map h)).all (λi=>(vq hp h o).contains i)&&(!tM o.op||(vq hp h o).all (λi=>(hp i).ids.all λj=>(vq hp h o).contains j))
structure FZ where
 fp:List Nat:=[]
 wr:List Nat:=[]
 base:Nat:=0
 nw:Nat:=0
structure RS where
 tmps:List AV
 heap:List AO
 known:List (Nat×Bool):=[]
 touched:Bool:=Q4
 log:List FZ:=[]
def RS.hp(st:RS)(id:Nat):AO:=st.heap.getD id .dead
def xe(E:bZ)(tmps:List AV)(known:List (Nat×Bool)):Operand->AV
 | .tmp t=>match known.lookup t with
  |some b=>.kb b
  |none=>tmps.getD t .any
 |.const v=>Cf v
 |.global g=>E.gl g
 |.func f=>.clo (.func f) [] []
def nN(h:List AO):List (Nat×AO)->List AO
 |[]=>h
 |(i,o)::r=>nN (h.set i o) r
def qy(tmps:List AV)(h:Option Tmp)(v:AV):List AV:=match h with
 |some d=>tmps.set d v
 |none=>tmps
def ua(known:List (Nat×Bool))(h:Option Tmp):List (Nat×Bool):=match h with
 |some d=>known.filter λp=>p.1!=d
 |none=>known
def FD(E:bZ)(o:Oper)(st:RS):Tr RS:=
  if Lr st.hp (xe E st.tmps st.known) o then
  (qa E (xe E st.tmps st.known) st.hp st.heap.length o).bind λf=>
    if f.wr.all (λp=>p.1<st.heap.length&&(vq st.hp (xe E st.tmps st.known) o).contains p.1)then
    .ok {tmps:=qy st.tmps o.dst f.val,heap:=nN st.heap f.wr++f.nw,known:=ua st.known o.dst,
          touched:=st.touched||!(f.wr.isEmpty&&f.nw.isEmpty),
          log:=st.log++[{fp:=vq st.hp (xe E st.tmps st.known) o,wr:=f.wr.map (·.1),base:=st.heap.length,nw:=f.nw.length}]}
    else .err
  else .err
def mD(o:Oper)(st:RS):RS:=
 {st with tmps:=qy st.tmps o.dst (.tup []),known:=ua st.known o.dst,log:=st.log++[{}]}
def uA(E:bZ)(ops:List Oper)(st:RS)(o:Oper):Tr RS:=
 match o.guard with
 |none=>FD E o st
 | some (j,h)=>match (ops[j]?).bind (·.dst) with
  |none=>.ok (mD o st)
  | some d=>match xe E st.tmps st.known (.tmp d) with
   |.kb b=>if b==h then FD E o st else .ok (mD o st)
   |.tup _=>.ok (mD o st)
   | .bool b=>
    let u:RS:={st with known:=(d,Q3)::st.known}
    let z:RS:={st with known:=(d,Q4)::st.known}
    .br b (ite h (FD E o u) (.ok (mD o u))) (ite h (.ok (mD o z)) (FD E o z))
   |_=>.err
def cK(E:bZ)(ops:List Oper):List Oper->RS->Tr RS
 |[],st=>.ok st
 |o::r,st=>(uA E ops st o).bind (cK E ops r)
def Sa(ops:List Oper):List Nat:=ops.filterMap (·.dst)
def dt(c:Bool):List Nat->List AV->List AV->List AV->List AV
 |[],pre,_,_=>pre
 |d::r,pre,t,f=>dt c r (pre.set d ((rF c (t.getD d .any) (f.getD d .any)).getD .any)) t f
def zan:AV->AV->Bool
 |.clo (.func a) _ _,.clo (.func b) _ _=>a !=b
 |.clo _ _ _,.nilf=>Q3
 |.nilf,.clo _ _ _=>Q3
 |_,_=>Q4
def uT(h:List Nat)(l o:List AV):Bool:=h.any λd=>zan (l.getD d .any) (o.getD d .any)
def AX(h:List Nat)(pre:List AV):Tr RS->Option (Option Bool×List AV)
 |.err=>Q2
 |.ok st=>if st.touched then Q2 else Q1 (Q2,st.tmps)
 | .chk c t=>match AX h pre t with
  |some (Q2,l)=>Q1 (Q1 c,l)
  |some (Q1 u,l)=>Q1 (Q1 (c&&u),l)
  |none=>Q2
 | .br c t f=>match AX h pre t,AX h pre f with
  |some (Q2,l),Q1 (Q2,o)=>if uT h l o then Q2 else Q1 (Q2,dt c h pre l o)
  |some (Q1 a,l),Q1 (Q2,o)=>if uT h l o then Q2 else Q1 (Q1 (cond c a Q3),dt c h pre l o)
  |some (Q2,l),Q1 (Q1 b,o)=>if uT h l o then Q2 else Q1 (Q1 (cond c Q3 b),dt c h pre l o)
  |some (Q1 a,l),Q1 (Q1 b,o)=>if uT h l o then Q2 else Q1 (Q1 (cond c a b),dt c h pre l o)
  |_,_=>Q2
def zns{α:Type}:Tr α->Bool
 |.br ..=>Q3
 |.chk _ t=>zns t
 |_=>Q4
def ZP:List Oper->List (List Nat)->List (List Nat)
 |[],acc=>acc
 |o::r,acc=>ZP r (acc++[o.after.toList.flatMap λe=>if Region.binds .any e then e.on::acc.getD e.on []else[]])
def eU(ops:List Oper)(o:Oper):List Nat:=
  (o.op.operands.toList.filterMap λ|.tmp t=>Q1 t|_=>Q2)++
  (match o.guard with
   |some (j,_)=>((ops[j]?).bind (·.dst)).toList
   |none=>[])
def iE(a b:List Nat):Bool:=a.any λx=>b.contains x
def gv(r:FZ)(x:Nat):Bool:=Q0 (r.base<=x)&&Q0 (x<r.base+r.nw)
def uS(ops:List Oper)(o oj:Oper)(ri rj:FZ):Bool:=
 iE o.dst.toList (eU ops oj)||iE o.dst.toList oj.dst.toList||iE (eU ops o) oj.dst.toList||
 iE ri.wr rj.fp||iE ri.fp rj.wr||rj.fp.any (gv ri)||ri.fp.any (gv rj)
def da(r:FZ)(id:Nat):Bool:=r.wr.contains id||gv r id
def X9(ops:List Oper)(log:List FZ)(z:List (List Nat))(i j:Nat)(o oj:Oper)(h u:FZ):Bool:=
 match o.op,oj.op,h.fp,u.wr with
 | .lookup _ _ _ Q4,.mapEntry _ _ _,[a],[b]=>b==a&&h.wr.isEmpty&&h.nw==0&&u.nw==0&&
  !(iE o.dst.toList (eU ops oj)||iE o.dst.toList oj.dst.toList||iE (eU ops o) oj.dst.toList)&&
  (List.range (Io ops)).all λl=>match log[l]? with
   |some B=>!da B a||Q0 (l<i)||l==j||(Q0 (j<l)&&(z.getD l []).contains i)
   |none=>Q4
 |_,_,_,_=>Q4
def vL(ops:List Oper)(log:List FZ):Bool:=
 let h:=ZP ops []
 (ops.zipIdx.all λp=>p.1.after.toList.all λe=>!Region.binds .any e||Q0 (e.on<p.2))&&
 (List.range (Io ops)).all λj=>(List.range j).all λi=>
  match ops[i]?,ops[j]?,log[i]?,log[j]? with
  |some o,Q1 oj,Q1 u,Q1 z=>!uS ops o oj u z||(h.getD j []).contains i||X9 ops log h i j o oj u z
  |_,_,_,_=>Q4
def checked(ops:List Oper):Tr RS->Tr RS
 |.err=>.err
 |.chk c t=>.chk c (checked ops t)
 |.br c t f=>.br c (checked ops t) (checked ops f)
 |.ok st=>if vL ops st.log then .ok st else .err
def RS.out(st:RS):St:={tmps:=st.tmps,heap:=st.heap}
def tX(E:bZ)(ops:List Oper)(h:Bool)(st:St):Tr St:=
 let t0:=cK E ops ops {tmps:=st.tmps,heap:=st.heap}
 let t:=if h then checked ops t0 else t0
 if zns t then match AX (Sa ops) st.tmps t with
  |some (Q2,l)=>.ok {st with tmps:=l}
  |some (Q1 c,l)=>.chk c (.ok {st with tmps:=l})
  |none=>t.bind λs=>.ok s.out
 else t.bind λs=>.ok s.out
inductive zG where
 |head (key:Nat) (k:List Item) (st:St)
 |ret (v:AV) (heap:List AO)
 |fork (c:Bool) (k1 k2:List Item) (st:St)
def IQ:Code->Code->Option (Nat×Nat×Nat×TypeId×Code×Code)
 | .region _ ops Q4,.cond (.tmp d') a b=>match ops.toList with
  | [o1,o2]=>match o1.dst,o1.op,o1.guard,o2.dst,o2.op,o2.guard with
   |some x,.move (.tmp s),Q2,Q1 d,.binOp .eql t (.tmp h) (.const (.slice Q2 0 0)) _,Q2=>if h=x/\d'=d/\x≠d then Q1 (s,x,d,t,a,b)else Q2
   |_,_,_,_,_,_=>Q2
  |_=>Q2
 |_,_=>Q2
def Ih(hp:Nat->AO):AV->Option Bool
 |.nils=>Q1 Q3
 |.sl _ l=>Q1 l.isEmpty
 | .vec id=>match hp id with
  |.vec _ l=>Q1 l.isEmpty
  |.frz _ l=>Q1 l.isEmpty
  |_=>Q2
 |_=>Q2
def Oa(P:Program)(t:TypeId):Bool:=match P.underlying t with
 |some (.slice _)=>Q3
 |_=>Q4
def FF(keep:List Nat):Nat->List AV->List AV
 |_,[]=>[]
 |i,v::r=>(ite (keep.contains i) v (.any))::FF keep (i+1) r
def vO(st:St):Nat×Option Nat×Sh->St
 | (s,Q2,e)=>match st.tmps.getD s .any with
  |.nils=>{tmps:=st.tmps.set s (.vec st.heap.length),heap:=st.heap++[.vec e []]}
  |_=>st
 | (s,some c,e)=>match st.tmps.getD s .any with
  | .ptr id 0=>match st.hp id with
   | .box cs=>match cs.getD c .any with
    |.nils=>{tmps:=st.tmps,heap:=st.heap.set id (.box (cs.set c (.vec st.heap.length)))++[.vec e []]}
    |_=>st
   |_=>st
  |_=>st
def HP(st:St):Nat×Nat->St
 | (s,c)=>match st.tmps.getD s .any with
  | .ptr id 0=>match st.hp id with
   | .box cs=>match cs.getD c .any with
    | .vec k=>match Do (st.hp k) with
     |.frz e l=>{tmps:=st.tmps,heap:=(st.heap.set k (.frz e l)).set id (.box (cs.set c (.sl e l)))}
     |_=>st
    |_=>st
   |_=>st
  |_=>st
structure aN where
 slots:List Nat:=[]
 prom:List (Nat×Option Nat×Sh):=[]
 unroll:Bool:=Q4
 sett:List (Nat×Nat):=[]
 cut:Bool:=Q4
def Ql:List Nat->Bool
 |[]=>Q3
 |i::r=>!r.contains i&&Ql r
def kI(hp:Nat->AO)(n0:Nat)(o h:List Nat):Bool:=
 o.all (λi=>h.contains i)&&h.all (λi=>(hp i).ids.all λj=>h.contains j)&&Ql h&&h.take n0==List.range n0
def zen(n0:Nat)(st:St):Option St:=
 let h:=kx st.hp 400 (List.range n0++AV.idsL st.tmps) []
 if kI st.hp n0 (AV.idsL st.tmps) h then
  Q1 {tmps:=AV.renL (λi=>h.idxOf i) st.tmps,heap:=h.map λi=>(st.hp i).ren λi=>h.idxOf i}
 else Q2
def zh5(n0:Nat)(k:aN)(st:St):Option St:=
 zen n0 (k.prom.foldl vO {st with tmps:=FF k.slots 0 st.tmps})
def lw(n0:Nat)(k:aN)(o:Nat)(h:List Item)(st:St):Tr zG:=
 match zh5 n0 k st with
 |some u=>.ok (.head o h u)
 |none=>.err
def eG:Code->Nat
 |.region id _ _=>id
 |.seq a _=>eG a
 |.block _ c=>eG c
 |.loop c=>eG c
 |.scope c=>eG c
 |_=>0
def JH(E:bZ)(st:St):ResultVar->Option AV
 |.tmp t=>Q1 (st.tmps.getD t .any)
 | .cell a t=>match st.tmps.getD a .any with
  | .ptr id off=>match st.hp id with
   |.box cs=>tg E.P t cs off
   |_=>Q2
  |_=>Q2
def wC(E:bZ)(st:St):List ResultVar->Option (List AV)
 |[]=>Q1 []
 | r::rs=>match JH E st r,wC E st rs with
  |some v,Q1 vs=>Q1 (v::vs)
  |_,_=>Q2
def IY:List AV->AV
 |[v]=>v
 |vs=>.tup vs
def wB(E:bZ)(n0:Nat)(o:List ResultVar)(st:St):Tr zG:=
 match wC E st o with
 | some vs=>
  let v:AV:=IY vs
  let h:=kx st.hp 400 (List.range n0++v.ids) []
  if kI st.hp n0 v.ids h then .ok (.ret (v.ren λi=>h.idxOf i) (h.map λi=>(st.hp i).ren λi=>h.idxOf i))else .err
 |none=>.err
def Bf(st:St)(c:Operand)(b:Bool):St:=match c with
 |.tmp t=>{st with tmps:=st.tmps.set t (.kb b)}
 |_=>st
def run(E:bZ)(n0:Nat)(keep:Nat->aN)(h:List ResultVar):Nat->List Item->St->Tr zG
 |0,_,_=>.err
 | n + 1,u,st=>match u with
  |[]=>wB E n0 h ((keep 1000000).sett.foldl HP ((keep 1000000).prom.foldl vO st))
  |.inBlock _::k=>run E n0 keep h n k st
  |.inLoop c::k=>if(keep (eG c)).unroll then run E n0 keep h n (.code c::.inLoop c::k) st else lw n0 (keep (eG c)) (eG c) (.code c::.inLoop c::k) st
  | .code c::k=>match c with
   |.skip=>run E n0 keep h n k st
   |.label _=>run E n0 keep h n k st
   | .seq a b=>match IQ a b with
    | some (s,x,d,t,B,z)=>match Ih st.hp (st.tmps.getD s .any) with
     |some c=>if Oa E.P t&&(Q0 (d<st.tmps.length)&&Q0 (x<st.tmps.length))then .ok (.fork c (.code B::k) (.code z::k) {st with tmps:=(st.tmps.set x (st.tmps.getD s .any)).set d .any})else .err
     |none=>.err
    |none=>run E n0 keep h n (.code a::.code b::k) st
   | .cond c a b=>match xe E st.tmps [] c with
    |.kb Q3=>run E n0 keep h n (.code a::k) st
    |.kb Q4=>run E n0 keep h n (.code b::k) st
    |.bool x=>.br x (run E n0 keep h n (.code a::k) (Bf st c Q3)) (run E n0 keep h n (.code b::k) (Bf st c Q4))
    |_=>.err
   |.block id c=>run E n0 keep h n (.code c::.inBlock id::k) st
   |.loop c=>if(keep (eG c)).unroll then run E n0 keep h n (.code c::.inLoop c::k) st else lw n0 (keep (eG c)) (eG c) (.code c::.inLoop c::k) st
   | .exit id=>match exitTo id k with
    |some C=>run E n0 keep h n C st
    |none=>.err
   |.ret=>wB E n0 h ((keep 1000000).sett.foldl HP ((keep 1000000).prom.foldl vO st))
   |.region id ops draw=>(tX E ops.toList draw st).bind λo=>if(keep (id+500000)).cut then lw n0 (keep (id+500000)) (id+500000) k o else run E n0 keep h n k o
   |_=>.err
  |_=>.err
def bl(n:Nat)(args:List AV)(heap:List AO):St:={tmps:=args++List.replicate (n-Io args) (.tup []),heap}
def tm(n:Nat)(l:List (Nat×AV)):List AV:=l.foldl (λa p=>a.set p.1 p.2) (List.replicate n .any)
open Tr (chk br)
open AV (nils agg tup ptr kb str sl)
def cy(k:IntKind)(n:Int):Prop:=k.min<=n/\n<=k.max
def aG:Nat:=9223372036854775807
theorem um{p:Prop}(h:p:=by unfold aG;omega):p:=h
inductive Rv (w:World) (U:Nat->Prop) (ρ:Nat->Option Value):AV->Value->Prop
 |any (v:Value):Rv w U ρ .any v
 |kb (b:Bool):Rv w U ρ (.kb b) (.bool b)
 |bool (b:Bool):Rv w U ρ (.bool b) (.bool b)
 |int (k:IntKind) (n:Int) (h:cy k n):Rv w U ρ (.int k n) (.int k n)
 |str (s:zD) (h:Io s<=aG):Rv w U ρ (.str s) (.string ⟨s.toArray⟩)
 |nils (a:Option Addr):Rv w U ρ .nils (.slice a 0 0)
 |sl0 (e:Sh) (a:Option Addr) (c:Nat):Rv w U ρ (.sl e []) (.slice a 0 c)
 | sl (e:Sh) (l:List (Sem e)) (b o c:Nat) (vals:Nat→Nat→Value) (hc:Io l≤c) (hm:Io l≤aG) (hb:b < w.heap.size) (hU:¬ U b)
   (hcell:∀i j,i<Io l->j<e.size->w.cell? ⟨b,o+i*e.size+j,Q2⟩=Q1 (vals i j))
   (hr:∀i(hi:i<Io l)(j:Nat)(c:AV),(zu e l[i])[j]?=Q1 c->Rv w U ρ c (vals i j)):
   Rv w U ρ (.sl e l) (.slice (Q1 ⟨b,o,Q2⟩) (Io l) c)
 |vec (id:Nat) (v:Value) (h:ρ id=Q1 v) (h1:v.oneCell'=Q3):Rv w U ρ (.vec id) v
 |ptr (id off b:Nat) (h:ρ id=Q1 (.pointer (Q1 ⟨b,0,Q2⟩))):Rv w U ρ (.ptr id off) (.pointer (Q1 ⟨b,off,Q2⟩))
 |vptr (id sz i off b n c:Nat) (h:ρ id=Q1 (.slice (Q1 ⟨b,0,Q2⟩) n c)):Rv w U ρ (.vptr id sz i off) (.pointer (Q1 ⟨b,i*sz+off,Q2⟩))
 | eptr (cs:List AV) (off b o:Nat) (vals:Nat→Value) (hb:b < w.heap.size) (hU:¬ U b)
   (hcell:∀j,j<Io cs->w.cell? ⟨b,o+j,Q2⟩=Q1 (vals j)) (h1:∀j,j<Io cs->(vals j).oneCell'=Q3)
   (hr:∀(j:Nat)(c:AV),cs[j]?=Q1 c->Rv w U ρ c (vals j)):Rv w U ρ (.eptr cs off) (.pointer (Q1 ⟨b,o+off,Q2⟩))
 |nilp:Rv w U ρ .nilp (.pointer Q2)
 | agg (cs:List AV) (vs:List Value) (hl:Io cs=Io vs) (h1:∀ v∈vs,v.oneCell'=Q3)
   (hr:∀(j:Nat)(c:AV)(v:Value),cs[j]?=Q1 c->vs[j]?=Q1 v->Rv w U ρ c v):Rv w U ρ (.agg cs) (.agg vs.toArray)
 | tup (cs:List AV) (vs:List Value) (hl:Io cs=Io vs)
   (hr:∀(j:Nat)(c:AV)(v:Value),cs[j]?=Q1 c->vs[j]?=Q1 v->Rv w U ρ c v):Rv w U ρ (.tup cs) (.tuple vs.toArray)
 | clo (fn:Fn) (fs cs:List AV) (vf vc:List Value) (hf:Io fs=Io vf) (hc:Io cs=Io vc)
   (hrf:∀(j:Nat)(c:AV)(v:Value),fs[j]?=Q1 c->vf[j]?=Q1 v->Rv w U ρ c v) (hrc:∀(j:Nat)(c:AV)(v:Value),cs[j]?=Q1 c->vc[j]?=Q1 v->Rv w U ρ c v):
   Rv w U ρ (.clo fn fs cs) (.func fn vf.toArray vc.toArray)
 |nilf:Rv w U ρ .nilf .nilFunc
 |mp (id:Nat) (v:Value) (h:ρ id=Q1 v) (h1:v.oneCell'=Q3):Rv w U ρ (.mp id) v
 |ifcN:Rv w U ρ (.ifc Q3) .nilIface
 |ifcS (t:TypeId) (v:Value):Rv w U ρ (.ifc Q4) (.iface t v)
 |tab (k:IntKind) (zs:List Int) (b:Nat) (T:TypeId) (fr:Nat×Nat) (hb:w.heap[b]?=Q1 (.cells (zs.map λz=>Value.int k z).toArray T fr)) (hU:¬U b):Rv w U ρ (.tab k zs) (.pointer (Q1 ⟨b,0,Q2⟩))
 |gint (m:Int) (b:Nat) (T:TypeId) (fr:Nat×Nat) (hm:cy .i64 m) (hb:w.heap[b]?=Q1 (.cells #[Value.int .i64 m] T fr)) (hU:¬U b):Rv w U ρ .gint (.pointer (Q1 ⟨b,0,Q2⟩))
structure dA (w:World) (U:Nat->Prop) (ρ:Nat->Option Value) (cs:List AV) (vs:List Value):Prop where
 len:Io cs=Io vs
 rv:∀(j:Nat)(c:AV)(v:Value),cs[j]?=Q1 c->vs[j]?=Q1 v->Rv w U ρ c v
theorem nV{w:World}{b o:Nat}{v:Value}(h:w.cell? ⟨b,o,Q2⟩=Q1 v):b<w.heap.size:=by
 unfold World.cell? at h;grind
theorem Rv.mono{w w':World}{U U':Nat->Prop}{ρ ρ':Nat->Option Value}(hs:w.heap.size<=w'.heap.size)
  (S:∀b,b<w.heap.size->¬U b->w'.heap[b]?=w.heap[b]?) (J:∀b,b<w.heap.size->U' b->U b) (L:∀id v,ρ id=Q1 v->ρ' id=Q1 v)
  {c:AV} {v:Value} (h:Rv w U ρ c v):Rv w' U' ρ' c v:=by
 have B:∀b o v,¬U b->w.cell? ⟨b,o,Q2⟩=Q1 v->w'.cell? ⟨b,o,Q2⟩=Q1 v:=by
  intro b o v u I;rw[World.cell?_of_block (S b (nV I) u)];exact I
 induction h with
 |any v=>exact .any v
 |kb b=>exact .kb b
 |bool b=>exact .bool b
 |int k n h=>exact .int k n h
 |str s h=>exact .str s h
 |nils a=>exact .nils a
 |sl0 e a c=>exact .sl0 e a c
 | sl e l b o c E I X u z G Y H=>
  exact .sl e l b o c E I X (g7 u hs) (λh=>z (J b u h)) (λi j hi O=>B _ _ _ z (G i j hi O)) H
 |vec id v h F=>exact .vec id v (L _ _ h) F
 |ptr id D b h=>exact .ptr id D b (L _ _ h)
 |vptr id sz i D b n c h=>exact .vptr id sz i D b n c (L _ _ h)
 | eptr cs D b o E u z G F Y H=>
  exact .eptr cs D b o E (g7 u hs) (λh=>z (J b u h)) (λj O=>B _ _ _ z (G j O)) F H
 |nilp=>exact .nilp
 |agg cs vs W F Y H=>exact .agg cs vs W F H
 |tup cs vs W Y H=>exact .tup cs vs W H
 |clo fn fs cs vf vc hf I h3 h2 h0 Z=>exact .clo fn fs cs vf vc hf I h0 Z
 |nilf=>exact .nilf
 |mp id v h F=>exact .mp id v (L _ _ h) F
 |ifcN=>exact .ifcN
 |ifcS t v=>exact .ifcS t v
 | tab k zs b T M u z=>
  have C:b<w.heap.size:=(ea.1 u).1;exact .tab k zs b T M (by rw[S b C z];exact u) (λh=>z (J b C h))
 | gint m b T M X u z=>
  have C:b<w.heap.size:=(ea.1 u).1;exact .gint m b T M X (by rw[S b C z];exact u) (λh=>z (J b C h))
theorem dA.mono{w w':World}{U o:Nat->Prop}{ρ u:Nat->Option Value}(C:w.heap.size<=w'.heap.size)
  (B:∀b,b<w.heap.size->¬U b->w'.heap[b]?=w.heap[b]?) (D:∀b,b<w.heap.size->o b->U b) (F:∀id v,ρ id=Q1 v->u id=Q1 v)
  {cs:List AV} {vs:List Value} (h:dA w U ρ cs vs):dA w' o u cs vs:=
 ⟨h.len,λj c v z E=>(h.rv j c v z E).mono C B D F⟩
theorem Rv.weak{w:World}{U U':Nat->Prop}{ρ:Nat->Option Value}(o:∀b,U' b->U b){c:AV}{v:Value}(h:Rv w U ρ c v):Rv w U' ρ c v:=
 h.mono (ae _) (λ_ _ _=>rfl) (λb _=>o b) (λ_ _ h=>h)
def AO.owns:AO->Bool
 |.box _|.vec _ _|.fmap _|.vmap _ _=>Q3
 |_=>Q4
def e7:Value->Option Nat
 |.pointer (Q1 a)=>Q1 a.block
 |.slice (Q1 a) _ c=>if c=0 then Q2 else Q1 a.block
 |.map (Q1 r)=>Q1 r
 |_=>Q2
def ar(ρ:Nat->Option Value)(id:Nat)(o:AO)(b:Nat):Prop:=o.owns=Q3/\∃v,ρ id=Q1 v/\e7 v=Q1 b
def dT(k:Int×Int×zD):Value:=.agg #[.int .i64 k.1,.int .i64 k.2.1,.string ⟨k.2.2.toArray⟩]
def iX(k:Int×Int×zD):Prop:=cy .i64 k.1/\cy .i64 k.2.1/\Io k.2.2<=aG
def lY(h:Array MapEntry)(o:Nat):Prop:=o=h.size/\∀(i:Nat)(e:MapEntry),h[i]?=Q1 e->e.born=i
def uX(u:Bool)(n:Int):Value:=bif u then .agg #[]else .int .i64 n
def bF(w:World)(U:Nat->Prop)(ρ:Nat->Option Value)(id:Nat):AO->Prop
 |.dead=>True
 |.box cs=>∃b T vals,ρ id=Q1 (.pointer (Q1 ⟨b,0,Q2⟩))/\U b/\w.heap[b]?=Q1 (.cells vals T (0,0))/\dA w U ρ cs vals.toList/\∀v∈vals.toList,v.oneCell'=Q3
 | .vec e l=>∃ a c,ρ id=Q1 (.slice a (Io l) c)∧Io l≤aG∧((l=[]∧c=0)∨∃ b T arr,a=Q1 ⟨b,0,Q2⟩∧0 < c∧U b∧w.heap[b]?=Q1 (.cells arr T (0,0))∧
   arr.size=c*e.size/\Io l<=c/\∀i(z:i<Io l)(j:Nat)(c:AV),(zu e l[i])[j]?=Q1 c->∃v,arr[i*e.size+j]?=Q1 v/\Rv w U ρ c v)
 |.frz e l=>∃v,ρ id=Q1 v/\Rv w U ρ (.sl e l) v
 | .fmap es=>∃ r h o,ρ id=Q1 (.map (Q1 r))∧U r∧w.heap[r]?=Q1 (.map h o)∧dA w U ρ (es.map (·.2)) (h.toList.map (·.val))∧
   h.toList.map (·.key)=es.map λp=>Value.string ⟨p.1.toArray⟩
 | .vmap u es=>∃ r h o,ρ id=Q1 (.map (Q1 r))∧U r∧w.heap[r]?=Q1 (.map h o)∧(h.toList.map fun e=>(e.key,e.val))=(es.map fun p=>(dT p.1,uX u p.2))∧
   (∀p∈es,cy .i64 p.2/\iX p.1)/\lY h o
theorem bF.mono{w w':World}{U S:Nat->Prop}{ρ Z:Nat->Option Value}(M:w.heap.size<=w'.heap.size)
  (L:∀b,b<w.heap.size->¬U b->w'.heap[b]?=w.heap[b]?) (O:∀b,b<w.heap.size->S b->U b) (F:∀id v,ρ id=Q1 v->Z id=Q1 v)
  {id:Nat} {o:AO} (h:bF w U ρ id o) (B:∀b,ar ρ id o b->w'.heap[b]?=w.heap[b]?/\S b):bF w' S Z id o:=by
 cases o with
 |dead=>trivial
 | box cs=>
  obtain⟨b,T,J,C,G,E,H,I⟩:=h;have:=B b ⟨rfl,_,C,rfl⟩;exact⟨b,T,J,F _ _ C,this.2,by rw[this.1];exact E,H.mono M L O F,I⟩
 | vec e l=>
  obtain⟨a,c,C,G,E⟩:=h;refine⟨a,c,F _ _ C,G,?_⟩;rcases E with E|⟨b,T,arr,rfl,hc,hU,hb,Y,W,hr⟩
  ·exact .inl E
  ·have:=B b ⟨rfl,_,C,by simp[e7];omega⟩;refine .inr ⟨b,T,arr,rfl,hc,this.2,by rw[this.1];exact hb,Y,W,λi hi j c hx=>?_⟩;obtain⟨v,hv,X⟩:=hr i hi j c hx;exact⟨v,hv,X.mono M L O F⟩
 | frz e l=>
  obtain⟨v,C,G⟩:=h;exact⟨v,F _ _ C,G.mono M L O F⟩
 | fmap es=>
  obtain⟨r,D,z,C,G,E,H,I⟩:=h;have:=B r ⟨rfl,_,C,rfl⟩;exact⟨r,D,z,F _ _ C,this.2,by rw[this.1];exact E,H.mono M L O F,I⟩
 | vmap u es=>
  obtain⟨r,D,z,C,G,E,H,I⟩:=h;have:=B r ⟨rfl,_,C,rfl⟩;exact⟨r,D,z,F _ _ C,this.2,by rw[this.1];exact E,H,I⟩
theorem bF.inU{w:World}{U:Nat->Prop}{ρ:Nat->Option Value}{id:Nat}{o:AO}(h:bF w U ρ id o){b:Nat}(O:ar ρ id o b):U b/\b<w.heap.size:=by
 obtain⟨J,v,B,z⟩:=O;cases o with
 |dead=>simp[AO.owns]at J
 |frz e l=>simp[AO.owns]at J
 | box cs=>
  obtain⟨M,T,L,D,G,F,H,I⟩:=h;rw[D]at B;cases B;simp[e7]at z;grind
 | vec e l=>
  obtain⟨a,c,D,G,F⟩:=h;rw[D]at B;cases B;rcases F with⟨_,rfl⟩|⟨M,T,arr,rfl,X,W,S,_⟩
  ·cases a<;>simp[e7]at z
  ·simp[e7]at z;grind
 | fmap es=>
  obtain⟨r,E,C,D,G,F,H,I⟩:=h;rw[D]at B;cases B;simp[e7]at z;grind
 | vmap u es=>
  obtain⟨r,E,C,D,G,F,H,I⟩:=h;rw[D]at B;cases B;simp[e7]at z;grind
theorem ac:∀(s:Sh)(x:Sem s),(zu s x).length=s.size
 |.unit,_=>rfl
 |.bool,_=>rfl
 |.int _,_=>rfl
 |.str,_=>rfl
 |.sl _,_=>rfl
 |.pr a b,x=>by simp[zu,Sh.size,ac a,ac b]
 |.expr,_=>rfl
theorem A8{w:World}{U U':Nat->Prop}{ρ:Nat->Option Value}{hp:Nat->AO}{e:Sh}{c:AV}{l:List (Sem e)}{v:Value}
  (h:xj hp e c=Q1 l) (M:Rv w U ρ c v) (W:∀b,U' b->U b)
  (J:∀id∈cU c,bF w U ρ id (hp id)) (L:∀id∈cU c,∀b,ar ρ id (hp id) b->¬U' b):Rv w U' ρ (.sl e l) v:=by
 cases c<;>simp[xj]at h
 case nils=>
  subst h;cases M;exact .sl0 e _ _
 case sl z E=>
  obtain⟨rfl,h⟩:=h;subst h;exact M.weak W
 case vec id=>
  cases M with
  |vec _ _ X _=>
  have F:=J id (by simp[cU]);have Z:=L id (by simp[cU]);cases B:hp id with
  |dead=>simp[B]at h
  |box cs=>simp[B]at h
  |fmap es=>simp[B]at h
  |vmap u es=>simp[B]at h
  | frz z E=>
   simp[B]at h;obtain⟨rfl,h⟩:=h;subst h;rw[B]at F;obtain⟨v',o,C⟩:=F;rw[X]at o;cases o;exact C.weak W
  | vec z E=>
   simp[B]at h;obtain⟨rfl,h⟩:=h;subst h;rw[B]at F Z;obtain⟨a,c,o,hm,h3⟩:=F;rw[X]at o;cases o;rcases h3 with⟨hl,hc⟩|⟨b,T,arr,rfl,hc,hU,hb,S,G,O⟩
   ·show Rv w U' ρ (.sl z E) _;subst hl;exact .sl0 z _ _
   ·show Rv w U' ρ (.sl z E) _;have I:¬U' b:=Z b ⟨rfl,_,X,by simp[e7];omega⟩;have D:=(ea.1 hb).1;refine .sl z E b 0 c (λi j=>(arr[i*z.size+j]?).getD undef) G hm D I (λi j hi hj=>?_) (λi hi j cc hx=>?_)
    ·have H:i*z.size+j<arr.size:=by
      rw[S];have:(i+1)*z.size<=c*z.size:=fH _ ow;rw[gT]at this;omega
     simp[World.cell?,hb,tB H]
    ·obtain⟨v,Y,C⟩:=O i hi j cc hx;simp[Y];exact C.weak W
theorem ot{w:World}{U U':Nat->Prop}{ρ:Nat->Option Value}{hp:Nat->AO}(D:∀b,U' b->U b):
  ∀(s:Sh)(cs:List AV)(x:Sem s)(r:List AV)(o:Nat->Value),cV hp s cs=Q1 (x,r)->
   (∀(j:Nat)(c:AV),cs[j]?=Q1 c->Rv w U ρ c (o j))->(∀id∈cs.flatMap cU,bF w U ρ id (hp id)/\∀b,ar ρ id (hp id) b->¬U' b)->
   cs.length=s.size+Io r/\r=cs.drop s.size/\∀(j:Nat)(c:AV),(zu s x)[j]?=Q1 c->Rv w U' ρ c (o j):=by
 intro s
 induction s with
 | unit=>
  intro cs x r o h C z;simp[cV]at h;subst h;refine⟨by simp[Sh.size],by simp[Sh.size],by simp[zu]⟩
 | bool=>
  intro cs x r o h C z;cases cs with
  |nil=>simp[cV]at h
  | cons c cs=>
   cases c<;>simp[cV]at h<;>(obtain⟨rfl,rfl⟩:=h)<;>refine⟨by simp[Sh.size];omega,by simp[Sh.size],?_⟩
   all_goals
    intro j c u;cases j with
    |succ j=>simp[zu]at u
    | zero=>
     simp[zu]at u;subst u;have:=C 0 _ rfl;generalize o 0=v at this;cases this;exact .bool _
 | int k=>
  intro cs x r o h C z;cases cs with
  |nil=>simp[cV]at h
  | cons c cs=>
   cases c<;>simp[cV]at h
   obtain⟨rfl,rfl,rfl⟩:=h;refine⟨by simp[Sh.size];omega,by simp[Sh.size],?_⟩;intro j c u;cases j with
   |succ j=>simp[zu]at u
   | zero=>
    simp[zu]at u;subst u;exact(C 0 _ rfl).weak D
 | str=>
  intro cs x r o h C z;cases cs with
  |nil=>simp[cV]at h
  | cons c cs=>
   cases c<;>simp[cV]at h
   obtain⟨rfl,rfl⟩:=h;refine⟨by simp[Sh.size];omega,by simp[Sh.size],?_⟩;intro j c u;cases j with
   |succ j=>simp[zu]at u
   | zero=>
    simp[zu]at u;subst u;exact(C 0 _ rfl).weak D
 | sl e Z=>
  intro cs x r o h C z;cases cs with
  |nil=>simp[cV]at h
  | cons c cs=>
   simp only[cV]at h;split at h
   ·rename_i l E;cases h;refine⟨by simp[Sh.size];omega,by simp[Sh.size],?_⟩;intro j c u;cases j with
    |succ j=>simp[zu]at u
    | zero=>
     simp[zu]at u;subst u;exact A8 E (C 0 _ rfl) D (λid B=>(z id (by simp[B])).1) (λid B=>(z id (by simp[B])).2)
   ·cases h
 | pr a b G H=>
  intro cs x r o h C z;simp only[cV]at h;split at h
  ·rename_i T S M;split at h
   ·rename_i W r2 O;cases h;obtain⟨l1,I,L⟩:=G cs T S o M C z;subst I;obtain⟨l2,J,Y⟩:=H _ W r (λj=>o (a.size+j)) O (λj c u=>by
      grind)
     (λid B=>z id (by
      grind))
    refine⟨?_,?_,?_⟩
    ·simp[Sh.size]at*;omega
    ·rw[J,F9];simp[Sh.size]
    ·intro j c u;simp only[zu]at u;by_cases F:j<a.size
     ·rw[mR (by rw[ac];exact F)]at u;exact L j c u
     ·rw[pq (by rw[ac];omega),ac]at u;grind
   ·cases h
  ·cases h
 | expr=>
  intro cs x r o h C z;simp only[cV]at h;unfold vy at h;split at h<;>try (cases h;done)
  rename_i op k i vs s c r';split at h
  ·rename_i l E;cases h;refine⟨by simp[Sh.size];omega,by simp[Sh.size],?_⟩;intro j X u
   match j with
   |0=>simp[zu,zf.op]at u;subst u;exact(C 0 _ rfl).weak D
   |1=>simp[zu,zf.v]at u;subst u;exact(C 1 _ rfl).weak D
   |2=>simp[zu,zf.v]at u;subst u;exact(C 2 _ rfl).weak D
   |3=>simp[zu,zf.v]at u;subst u;exact(C 3 _ rfl).weak D
   |4=>simp[zu,zf.s]at u;subst u;exact(C 4 _ rfl).weak D
   | 5=>
    simp[zu,zf.l]at u;subst u;exact A8 E (C 5 _ rfl) D (λid B=>(z id (by simp[B])).1) (λid B=>(z id (by simp[B])).2)
   |j+6=>simp[zu]at u
  ·cases h
@[simp] theorem Tr.val_bind {α β:Type} (t:Tr α) (k:α->Tr β):(t.bind k).val=t.val.bind λa=>(k a).val:=by
 induction t with
 |err=>rfl
 |chk c t u=>cases c<;>simp[Tr.bind,Tr.val,u]
 |br c t f o h=>cases c<;>simp[Tr.bind,Tr.val,o,h]
 |ok a=>rfl
@[simp] theorem Tr.val_err {α:Type}:(Tr.err:Tr α).val=Q2:=rfl
@[simp] theorem Tr.val_ok {α:Type} (a:α):(Tr.ok a).val=Q1 a:=rfl
@[simp] theorem Tr.val_chk {α:Type} (c:Bool) (t:Tr α) (a:α):(chk c t).val=Q1 a↔c=Q3/\t.val=Q1 a:=by cases c<;>simp[Tr.val]
@[simp] theorem zp7 (v:AV) (f:fT):(ret v).val=Q1 f↔f={val:=v}:=by simp[ret,eq_comm]
@[simp] theorem zpY (v:Option AV) (f:fT):(FH v).val=Q1 f↔∃x,v=Q1 x/\f={val:=x}:=by
 cases v<;>simp[FH]
section
variable {P:Program} {w:World} {U:Nat->Prop} {ρ:Nat->Option Value}
theorem cQ{t:TypeId}{n:Nat}(h:fR P t=Q1 n)(w:World):(Go.sizeOf t).run P w=.ok n w:=by
 unfold fR at h;cases o:P.info? t with
 |none=>simp[o]at h
 |some i=>simp[o]at h;simp[Go.sizeOf,typeInfo,o,h]
theorem jV{t:TypeId}{b:Bool}(h:E8 P t=Q1 b)(w:World):(isAgg t).run P w=.ok b w:=by
 unfold E8 at h;cases o:P.underlying t with
 |none=>simp[o]at h
 |some d=>cases d<;>simp[o]at h<;>subst h<;>simp[isAgg,bD o]
theorem Addr.add_none(b o n:Nat):(⟨b,o,Q2⟩:Addr).add n=⟨b,o+n,Q2⟩:=by
 unfold Addr.add;split<;>simp_all
theorem yG{n j k:Nat}(h:(List.range n)[j]?=Q1 k):j<n/\k=j:=by
 grind
theorem uk{t:TypeId}{cs:List AV}{u:Nat}{r:AV}{b o:Nat}{vals:Nat->Value}(h:tg P t cs u=Q1 r)
  (z:∀j,j<Io cs->w.cell? ⟨b,o+j,Q2⟩=Q1 (vals j)) (H:∀j,j<Io cs->(vals j).oneCell'=Q3)
  (G:∀(j:Nat)(c:AV),cs[j]?=Q1 c->Rv w U ρ c (vals j)):
  ∃x,(loadVar t ⟨b,o+u,Q2⟩).run P w=.ok x w/\Rv w U ρ r x:=by
 unfold tg at h;split at h
 ·rename_i n B F;split at h
  ·rename_i E;cases h;refine⟨.agg ((List.range n).map λj=>vals (u+j)).toArray,?_,?_⟩
   ·have:=run_loadCells_list (P:=P) w ⟨b,o+u,Q2⟩ ((List.range n).map λj=>vals (u+j)) (λj v D=>by
     rw[Addr.add_none];grind)
    simp only[cz,List.length_range]at this;simp[loadVar,jV B,cQ F,this]
   ·refine .agg _ _ sg (λv D=>?_) (λj c v I D=>?_)
    ·grind
    grind
  ·cases h
 ·rename_i B;have C:u<Io cs:=(dn.1 h).1;refine⟨vals u,?_,G _ _ h⟩;simp[loadVar,jV B,z u C]
 ·cases h
theorem Rv.sl_one{e:Sh}{l:List (Sem e)}{v:Value}(h:Rv w U ρ (.sl e l) v):v.oneCell'=Q3:=by
 cases h<;>rfl
theorem fL:∀(e:Sh)(x:Sem e)(j:Nat)(c:AV)(v:Value),(zu e x)[j]?=Q1 c->Rv w U ρ c v->v.oneCell'=Q3
 |.unit,_,_,_,_,h,_=>by simp[zu]at h
 |.bool,_,0,_,_,h,o=>by simp[zu]at h;subst h;cases o;rfl
 |.int _,_,0,_,_,h,o=>by simp[zu]at h;subst h;cases o;rfl
 |.str,_,0,_,_,h,o=>by simp[zu]at h;subst h;cases o;rfl
 |.sl _,_,0,_,_,h,o=>by simp[zu]at h;subst h;cases o<;>rfl
 |.bool,_,_+1,_,_,h,_=>by simp[zu]at h
 |.int _,_,_+1,_,_,h,_=>by simp[zu]at h
 |.str,_,_+1,_,_,h,_=>by simp[zu]at h
 |.sl _,_,_+1,_,_,h,_=>by simp[zu]at h
 | .pr a b,x,j,c,v,h,o=>by
  simp only[zu]at h;rcases Nat.lt_or_ge j (zu a x.1).length with u|u
  ·rw[mR u]at h;exact fL a _ _ _ _ h o
  ·rw[pq u]at h;exact fL b _ _ _ _ h o
 | .expr,x,j,c,v,h,o=>by
  match j with
  |0=>simp[zu]at h;subst h;cases o;rfl
  |1=>simp[zu]at h;subst h;cases o;rfl
  |2=>simp[zu]at h;subst h;cases o;rfl
  |3=>simp[zu]at h;subst h;cases o;rfl
  |4=>simp[zu]at h;subst h;cases o;rfl
  |5=>simp[zu]at h;subst h;exact o.sl_one
  |_+6=>simp[zu]at h
theorem gU{av:AV}{cs:List AV}{v:Value}(h:cellsOf av=Q1 cs)(F:Rv w U ρ av v):
  dA w U ρ cs v.cells.toList/\∀x∈v.cells.toList,x.oneCell'=Q3:=by
 have u:∀{av:AV},v.oneCell'=Q3->Rv w U ρ av v->dA w U ρ [av] v.cells.toList/\∀x∈v.cells.toList,x.oneCell'=Q3:=by
  intro av B F;have:v.cells=#[v]:=by cases v<;>simp[Value.oneCell']at B<;>rfl
  rw[this];refine⟨⟨rfl,λj c x H hx=>?_⟩,by simpa using B⟩;cases j with
  |zero=>simp_all
  |succ j=>simp at H
 cases F with
 |any v=>simp[cellsOf]at h
 |tup cs vs S F=>simp[cellsOf]at h
 | agg W vs S B F=>
  simp[cellsOf]at h;subst h;exact⟨⟨by simp[Value.cells,S],λj c v H I=>F j c v H (by simpa[Value.cells]using I)⟩,by simpa[Value.cells]using B⟩
 |kb b=>simp[cellsOf]at h;subst h;exact u rfl (.kb b)
 |bool b=>simp[cellsOf]at h;subst h;exact u rfl (.bool b)
 |int k n hk=>simp[cellsOf]at h;subst h;exact u rfl (.int k n hk)
 |str s hs=>simp[cellsOf]at h;subst h;exact u rfl (.str s hs)
 |nils a=>simp[cellsOf]at h;subst h;exact u rfl (.nils a)
 |sl0 e a c=>simp[cellsOf]at h;subst h;exact u rfl (.sl0 e a c)
 |sl e l b o c E H L C G z F=>simp[cellsOf]at h;subst h;exact u rfl (.sl e l b o c E H L C G z F)
 |vec id v I B=>simp[cellsOf]at h;subst h;exact u B (.vec id v I B)
 |ptr id D b C=>simp[cellsOf]at h;subst h;exact u rfl (.ptr id D b C)
 |vptr id sz i D b n c C=>simp[cellsOf]at h;subst h;exact u rfl (.vptr id sz i D b n c C)
 |eptr cs D b o E C G z B F=>simp[cellsOf]at h;subst h;exact u rfl (.eptr cs D b o E C G z B F)
 |nilp=>simp[cellsOf]at h;subst h;exact u rfl .nilp
 |clo X Y cs vf vc Z H O M=>simp[cellsOf]at h;subst h;exact u rfl (.clo X Y cs vf vc Z H O M)
 |nilf=>simp[cellsOf]at h;subst h;exact u rfl .nilf
 |mp id v I B=>simp[cellsOf]at h;subst h;exact u B (.mp id v I B)
 |ifcN=>simp[cellsOf]at h;subst h;exact u rfl .ifcN
 |ifcS t v=>simp[cellsOf]at h;subst h;exact u rfl (.ifcS t v)
 |tab k zs b T J C G=>simp[cellsOf]at h;subst h;exact u rfl (.tab k zs b T J C G)
 |gint m b T J L C G=>simp[cellsOf]at h;subst h;exact u rfl (.gint m b T J L C G)
theorem R1{b:Nat}{o:Array Value}{T:TypeId}{u:Nat×Nat}(h:w.heap[b]?=Q1 (.cells o T u))(j:Nat)(z:j<o.size):
  w.cell? ⟨b,j,Q2⟩=Q1 (o.toList.getD j undef):=by
 simp[World.cell?,h,tB z,List.getD]
theorem GZ{hp:Nat->AO}{t:TypeId}{av:AV}{v:Value}{f:fT}(h:(Iv P hp t av).val=Q1 f)(hv:Rv w U ρ av v)
  (S:∀id∈av.ids,bF w U ρ id (hp id)):∃r x,f={val:=r}/\(Instr.loadAt t v).run P w=.ok x w/\Rv w U ρ r x:=by
 unfold Iv at h;split at h
 ·rename_i id X;cases hv with
  |ptr _ _ b Z=>
  have O:=S id (by simp[AV.ids]);split at h
  ·rename_i cs F;rw[F]at O;obtain⟨b',T,D,z,L,H,Y,h5⟩:=O;rw[Z]at z;cases z;simp at h;obtain⟨r,I,rfl⟩:=h
   obtain⟨x,J,C⟩:=uk (w:=w) (U:=U) (ρ:=ρ) (b:=b) (o:=0) (vals:=λj=>D.toList.getD j undef) I
    (λj B=>by rw[ek];exact R1 H j (by rw[Y.len]at B;simpa using B))
    (λj B=>h5 _ (by
     rw[Y.len]at B;simp_all))
    (λj c hc=>Y.rv j c _ hc (by
     have B:j<D.toList.length:=by rw[<-Y.len];exact(dn.1 hc).1
     simp_all))
   rw[ek]at J;exact⟨r,x,rfl,by simp[Instr.loadAt,Instr.sureAddr,J],C⟩
  ·simp at h
 ·rename_i cs X;cases hv with
  |eptr _ _ b o D Z hU E z I=>
  simp at h;obtain⟨r,G,rfl⟩:=h;obtain⟨x,J,C⟩:=uk (w:=w) (U:=U) (ρ:=ρ) G E z I;exact⟨r,x,rfl,by simp[Instr.loadAt,Instr.sureAddr,J],C⟩
 ·rename_i id sz i X;cases hv with
  |vptr _ _ _ _ b n c Z=>
  have O:=S id (by simp[AV.ids]);split at h
  ·rename_i e l F;rw[F]at O;obtain⟨a,c',z,hm,H⟩:=O;rw[Z]at z;cases z;split at h
   ·rename_i W;subst W;simp at h;obtain⟨hi,r,I,rfl⟩:=h;rcases H with⟨rfl,_⟩|⟨b',T,arr,h0,hc,hU,h6,W,h7,G⟩
    ·simp at hi
    ·cases h0;have M:l[i]?.getD (zi e)=l[i]:=by simp[zU hi]
     rw[M]at I;have u:∀j,j<(zu e l[i]).length->∃v c,arr[i*e.size+j]?=Q1 v/\(zu e l[i])[j]?=Q1 c/\Rv w U ρ c v:=by
      intro j B;obtain⟨v,z,L⟩:=G i hi j _ (zU B);exact⟨v,_,z,zU B,L⟩
     obtain⟨x,J,C⟩:=uk (w:=w) (U:=U) (ρ:=ρ) (b:=b) (o:=i*e.size) (vals:=λj=>(arr[i*e.size+j]?).getD undef) I
      (λj B=>by
       obtain⟨v,c,z,L,H⟩:=u j B;simp[World.cell?,h6,z])
      (λj B=>by
       obtain⟨v,c,z,L,H⟩:=u j B;simp only[z,dv];exact fL _ _ _ _ _ L H)
      (λj c hc=>by
       grind)
     exact⟨r,x,rfl,by simp[Instr.loadAt,Instr.sureAddr,J],C⟩
   ·simp at h
  ·simp at h
 ·simp at h
theorem NV{t:TypeId}{J:Nat}{I:AV}{v:Value}{f:fT}(h:(It P t J I).val=Q1 f)(H:Rv w U ρ I v):
  ∃r x,f={val:=r}/\(Instr.fieldAt t v J).run P w=.ok x w/\Rv w U ρ r x:=by
 unfold It at h;split at h
 ·rename_i D z;unfold Bj at z;split at z
  ·rename_i T G;split at h
   ·rename_i k O;have u:∀a:Addr,(fieldPlace a D).run P w=.ok (a.add D.offset) w:=by
     intro a;simp[fieldPlace,cQ O]
    split at h
    ·rename_i id B;cases H with
     |ptr _ _ b E=>
     simp at h;subst h;exact⟨_,_,rfl,by simp[Instr.fieldAt,bD G,z,Instr.sureAddr,u,Addr.add_none],.ptr id (B+D.offset) b E⟩
    ·rename_i cs B;cases H with
     |eptr _ _ b o F E M C L S=>
     simp at h;subst h;refine⟨_,_,rfl,by simp[Instr.fieldAt,bD G,z,Instr.sureAddr,u,Addr.add_none];rfl,?_⟩;rw[Nat.add_assoc];exact .eptr cs (B+D.offset) b o F E M C L S
    ·rename_i id sz i B;cases H with
     |vptr _ _ _ _ b n c E=>
     simp at h;subst h;refine⟨_,_,rfl,by simp[Instr.fieldAt,bD G,z,Instr.sureAddr,u,Addr.add_none];rfl,?_⟩;rw[Nat.add_assoc];exact .vptr id sz i (B+D.offset) b n c E
    ·simp at h
   ·simp at h
  ·cases z
 ·simp at h
theorem mf{k:Int}{n:Nat}:zJ k n=Q3↔0<=k/\k<n:=by simp[zJ]
theorem Pu{k:Int}{g:Nat->AV}{e:fT}:∀(n i:Nat),(RO k g i n).val=Q1 e->(i:Int)<=k->k<i+n->e={val:=g k.toNat}
 |0,_,h,_,_=>by simp[RO]at h
 | 1,i,h,u,z=>by
  have:k.toNat=i:=by omega
  simp[RO]at h;simp_all
 | n+2,i,h,u,z=>by
  rw[RO,Tr.val]at h;split at h
  ·simp_all
  ·rename_i o;have o:k≠i:=by simpa using o
   exact Pu (n+1) (i+1) h ow ow
theorem Da{hp:Nat->AO}{t:TypeId}{ax ai:AV}{vx vi:Value}{f:fT}(h:(pZ P hp t ax ai).val=Q1 f)
  (hx:Rv w U ρ ax vx) (hi:Rv w U ρ ai vi) (h4:∀id∈ax.ids,bF w U ρ id (hp id)):
  ∃r x,f={val:=r}/\(Instr.indexAt t vx vi).run P w=.ok x w/\Rv w U ρ r x:=by
 have W:∀(e:Sh)(l:List (Sem e))(k:Int)(ik:IntKind)(u:TypeId),P.underlying t=Q1 (.slice u)->fR P u=Q1 e.size->0<=k->k<Io l->
   Rv w U ρ (.sl e l) vx->∃x,(Instr.indexAt t vx (.int ik k)).run P w=.ok x w/\Rv w U ρ (.eptr (zu e (l.getD k.toNat (zi e))) 0) x:=by
  intro e l k ik u L z G D J;cases J with
  |sl0 _ a c=>simp at D;omega
  | sl _ _ b o c C hc hm M X B I=>
   have E:k.toNat<Io l:=by omega
   refine⟨.pointer (Q1 ⟨b,o+k.toNat*e.size+0,Q2⟩),?_,?_⟩
   ·simp[Instr.indexAt,asIntOf,bD L,G,D,cQ z,Addr.add_none]
   ·have O:l.getD k.toNat (zi e)=l[k.toNat]:=by simp[List.getD,zU E]
    rw[O]
    exact .eptr _ 0 b (o+k.toNat*e.size) (λj=>C k.toNat j) M X (λj Y=>B _ _ E (by rwa [ac]at Y))
     (λj Y=>fL _ _ j _ _ (zU Y) (I _ E j _ (zU Y))) (λj c hc=>I _ E j c hc)
 unfold pZ at h;split at h
 ·rename_i ik k;cases hi;split at h
  ·rename_i u L;split at h
   ·rename_i e l;split at h
    ·rename_i z;simp[mf]at h;simp_all
    ·simp at h
   ·rename_i id;have Z:=h4 id (by simp[AV.ids]);split at h
    ·rename_i e l H;rw[H]at Z;split at h
     ·rename_i z;simp[mf]at h;obtain⟨⟨G,D⟩,rfl⟩:=h;obtain⟨a,c',J,hm,h3⟩:=Z;cases hx with
      |vec _ _ hv _=>
      rw[J]at hv;cases hv;rcases h3 with⟨rfl,_⟩|⟨b',T,arr,rfl,hc,X,h6,h5,h7,I⟩
      ·simp at D;omega
      ·refine⟨_,.pointer (Q1 ⟨b',k.toNat*e.size+0,Q2⟩),rfl,?_,.vptr id e.size k.toNat 0 b' _ _ J⟩;simp[Instr.indexAt,asIntOf,bD L,G,D,cQ z,Addr.add_none]
     ·simp at h
    ·rename_i e l H;rw[H]at Z;split at h
     ·rename_i z;simp[mf]at h;obtain⟨⟨G,D⟩,rfl⟩:=h;obtain⟨v',h9,h8⟩:=Z;cases hx with
      |vec _ _ hv _=>
      simp_all
     ·simp at h
    ·simp at h
   ·simp at h
  ·rename_i x0 u L;split at h
   ·rename_i sz z;split at h
    ·rename_i id F;simp[mf]at h;obtain⟨⟨G,D⟩,rfl⟩:=h;cases hx with
     |ptr _ _ b M=>
     refine⟨_,_,rfl,?_,.ptr id (F+k.toNat*sz) b M⟩;simp[Instr.indexAt,asIntOf,bD L,G,D,cQ z,Addr.add_none,Instr.sureAddr]
    ·rename_i cs F;simp only[Tr.val]at h;split at h;rotate_left
     ·cases h
     rename_i h2;obtain⟨G,D⟩:=mf.1 h2;have h:=Pu _ _ h ow ow;subst h;cases hx with
     |eptr _ _ b o C M X B S J=>
     refine⟨_,.pointer (Q1 ⟨b,o+(F+k.toNat*sz),Q2⟩),rfl,?_,.eptr cs (F+k.toNat*sz) b o C M X B S J⟩;simp[Instr.indexAt,asIntOf,bD L,G,D,cQ z,Addr.add_none,Instr.sureAddr,Nat.add_assoc]
    ·simp at h
   ·simp at h
  ·simp at h
 ·simp at h
end
section
variable {P:Program} {w:World} {U:Nat->Prop} {ρ:Nat->Option Value}
theorem SE{k:IntKind}{n:Int}(h:N9 k n=Q3):cy k n:=by
 cases k<;>simp[N9]at h<;>simp[cy,IntKind.min,IntKind.max,IntKind.signed,IntKind.bits]<;>omega
theorem Pr(v:Value):Rv w U ρ (Ky v) v:=by
 unfold Ky;split
 ·exact .kb _
 ·split
  ·rename_i h;exact .int _ _ (SE h)
  ·exact .any _
 ·rename_i s;split
  ·rename_i h;have:s=⟨s.data.toList.toArray⟩:=by cases s;simp
   have o:s.data.toList.length<=aG:=by unfold aG;omega
   have:=Rv.str (w:=w) (U:=U) (ρ:=ρ) s.data.toList o;simpa using this
  ·exact .any _
 ·exact .nils _
 ·exact .nilp
 ·exact .nilf
 ·exact .ifcN
 ·exact .any _
theorem zbe(v:Value):zpB v=v.oneCell':=by cases v<;>rfl
theorem qY(v:Value):Rv w U ρ (Cf v) v:=by
 unfold Cf;split
 ·rename_i cs;split
  ·rename_i h;have:=Rv.agg (w:=w) (U:=U) (ρ:=ρ) (cs.toList.map Ky) cs.toList sw (λv u=>by
    rw[<-zbe];exact ep.1 h v u) (λj c v z u=>by
    simp only[eL,eB]at z;obtain⟨B,o,rfl⟩:=z;rw[u]at o;cases o;exact Pr v)
   simpa using this
  ·exact .any _
 ·exact Pr _
theorem oY(k:IntKind)(n:Int):cy k (k.wrap n):=by
 cases k<;>simp[cy,IntKind.min,IntKind.max,IntKind.signed,IntKind.bits,IntKind.wrap]<;>(try split)<;>omega
theorem DI{c:Bool}{x y z:AV}{v:Value}(h:rF c x y=Q1 z)(o:Rv w U ρ (ite c x y) v):Rv w U ρ z v:=by
  unfold rF at h;split at h
  all_goals first
    |(cases h;cases c<;>simp at o⊢<;>cases o<;>first|exact .bool _|exact .str _ ‹_›)
    | (split at h
       · rename_i u;subst u;cases h;cases c<;>simp at o⊢<;>exact o
       · cases h)
    |cases h
theorem DU{t:TypeId}{cs:List AV}{o:Nat}{r:AV}{vs:List Value}(h:tg P t cs o=Q1 r)
  (D:Io cs=Io vs) (B:∀v∈vs,v.oneCell'=Q3) (H:∀(j:Nat)(c:AV)(v:Value),cs[j]?=Q1 c->vs[j]?=Q1 v->Rv w U ρ c v):
  ∃x,(part t vs.toArray o).run P w=.ok x w/\Rv w U ρ r x:=by
 unfold tg at h;split at h
 ·rename_i n z G;split at h
  ·rename_i E;cases h;refine⟨.agg (vs.toArray.extract o (o+n)),by simp[part,jV z,cQ G],?_⟩;have C:vs.toArray.extract o (o+n)=((vs.drop o).take n).toArray:=by
    apply mz;simp[List.extract_eq_take_drop]
   rw[C];refine .agg _ _ (by simp[D]) (λv u=>B v (List.mem_of_mem_drop (List.mem_of_mem_take u))) (λj c v I u=>?_);grind
  ·cases h
 ·rename_i z;have F:o<Io cs:=(dn.1 h).1;have u:vs[o]?=Q1 vs[o]:=zU ow;refine⟨vs[o],?_,H _ _ _ h u⟩;simp[part,jV z,u]
 ·cases h
theorem zbG(s:zD)(i:Nat)(h:i<Io s):(⟨s.toArray⟩:ByteArray)[i]?=Q1 (s.getD i 0):=by
 have o:i<(⟨s.toArray⟩:ByteArray).size:=by simpa[ByteArray.size]using h
 rw[getElem?_pos _ i o];simp[List.getD,zU h];rfl
theorem NW{t:TypeId}{F ai:AV}{J I:Value}{f:fT}(h:(Iu P t F ai).val=Q1 f)
  (u:Rv w U ρ F J) (L:Rv w U ρ ai I):∃r x,f={val:=r}/\(Instr.index t J I).run P w=.ok x w/\Rv w U ρ r x:=by
 unfold Iu at h;split at h
 ·rename_i W k;cases L;split at h
  ·rename_i s E;simp[mf]at h;obtain⟨⟨z,H⟩,rfl⟩:=h;cases u with
   |str _ T=>
   have B:k.toNat<Io s:=by omega
   refine⟨_,.int .u8 (s.getD k.toNat 0).toNat,rfl,?_,?_⟩
   ·simp[Instr.index,asIntOf,bD E,z,zbG s _ B]
   ·rw[aS];refine .int _ _ ?_;have:=(s[k.toNat]?.getD 0).toNat_lt;simp[cy,IntKind.min,IntKind.max,IntKind.signed,IntKind.bits];omega
  ·rename_i S G cs E;split at h
   ·rename_i sz D;split at h
    ·rename_i r hp;simp[mf]at h;obtain⟨⟨z,H⟩,rfl⟩:=h;cases u with
     |agg _ vs M o O=>
     obtain⟨x,u,C⟩:=DU (w:=w) (U:=U) (ρ:=ρ) hp M o O;exact⟨r,x,rfl,by simp[Instr.index,asIntOf,bD E,z,H,cQ D,u],C⟩
    ·simp at h
   ·simp at h
  ·simp at h
 ·simp at h
theorem Hg(n:Nat)(h:n<=aG):cy .i64 (n:Int):=by
 unfold aG at h;simp[cy,IntKind.min,IntKind.max,IntKind.signed,IntKind.bits];omega
theorem JT{e:Sh}{l:List (Sem e)}{v:Value}(C:Rv w U ρ (.sl e l) v):∃a c,v=.slice a (Io l) c/\Io l<=aG/\Io l<=c:=by
 cases C with
 |sl0 _ a c=>exact⟨a,c,rfl,sw,sw⟩
 |sl _ _ b o c u z B F E h D=>exact⟨_,_,rfl,B,z⟩
theorem EU(s:zD):(⟨s.toArray⟩:ByteArray).size=Io s:=by simp[ByteArray.size]
theorem Vn{hp:Nat->AO}{t:TypeId}{I:AV}{S:Value}{ty:TypeId}{f:fT}(h:(Vm P hp t I).val=Q1 f)(H:Rv w U ρ I S)
  (F:∀id∈I.ids,bF w U ρ id (hp id)):
  ∃r x,f={val:=r}/\(Builtin.len_ #[t] ty #[S]).run P w=.ok x w/\Rv w U ρ r x:=by
 unfold Vm at h;split at h
 ·rename_i z;split at h
  ·rename_i s;simp at h;subst h;cases H with
   |str _ Z=>exact⟨_,.int .i64 (Io s),rfl,by simp[Builtin.len_,bD z,goInt,EU],.int _ _ (Hg _ Z)⟩
  ·simp at h
 ·rename_i e0 z;split at h
  ·simp at h;subst h;cases H;exact⟨_,_,rfl,by simp[Builtin.len_,bD z,goInt],.int _ _ (Hg 0 sw)⟩
  ·rename_i e l;simp at h;subst h;obtain⟨a,c,rfl,E,_⟩:=JT H;exact⟨_,_,rfl,by simp[Builtin.len_,bD z,goInt],.int _ _ (Hg _ E)⟩
  ·rename_i id;have B:=F id (by simp[AV.ids]);cases H with
   |vec _ _ C _=>
   split at h
   ·rename_i e l o;rw[o]at B;obtain⟨a,c',Y,E,M⟩:=B;rw[Y]at C;cases C;simp at h;subst h;exact⟨_,_,rfl,by simp[Builtin.len_,bD z,goInt],.int _ _ (Hg _ E)⟩
   ·rename_i e l o;rw[o]at B;obtain⟨v',G,L⟩:=B;rw[C]at G;cases G;obtain⟨a,c,rfl,E,_⟩:=JT L;simp at h;subst h;exact⟨_,_,rfl,by simp[Builtin.len_,bD z,goInt],.int _ _ (Hg _ E)⟩
   ·simp at h
  ·simp at h
 ·rename_i kt et z;split at h
  ·rename_i id;have B:=F id (by simp[AV.ids]);cases H with
   |mp _ _ C _=>
   split at h
   ·rename_i u es o;rw[o]at B;obtain⟨r,D,J,T,h2,M,W,h5⟩:=B;rw[T]at C;cases C;simp at h;obtain⟨O,rfl⟩:=h;have X:D.size=Io es:=by have:=congrArg Io W;simpa using this
    exact⟨_,.int .i64 (Io es),rfl,by simp[Builtin.len_,bD z,goInt,lc M,X,Result.andThen],.int _ _ (Hg _ um)⟩
   ·simp at h
  ·simp at h
 ·simp at h
theorem Vk{d:Nat}{t:TypeId}{x y:AV}{r:Bool}{a b:Value}(h:eqT P t x y=Q1 r)(u:Rv w U ρ x a)(z:Rv w U ρ y b):
  (Op.equalIn (d+1) t a b).run P w=.ok r w:=by
 unfold eqT at h;split at h
 ·rename_i o;split at h
  ·rename_i B;subst B;cases h;cases u;cases z;exact run_equalIn_int w d t _ _ _ _ o
  ·cases h
 ·rename_i o;cases h;cases u;cases z;rw[run_equalIn_string w d t _ _ o];simp
 all_goals first
  |(rename_i o;cases h;cases u;cases z;exact run_equalIn_bool w d t _ _ o)
  |cases h
theorem zax{t:TypeId}{x y:AV}{r:Bool}(h:eqT P t x y=Q1 r):E8 P t=Q1 Q4:=by
 unfold eqT at h;split at h<;>simp_all[E8]
theorem PR{d:Nat}:∀(B:List Field)(i:Nat)(xs D:List AV)(r:Bool)(u z:Array Value),Fy P B i xs D=Q1 r->
  (∀(j:Nat) c,xs[j]?=Q1 c->∃v,u[i+j]?=Q1 v/\Rv w U ρ c v)->(∀(j:Nat) c,D[j]?=Q1 c->∃v,z[i+j]?=Q1 v/\Rv w U ρ c v)->
  (Op.eqFields (d+1) u z B).run P w=.ok r w
 | [],i,[],[],r,u,z,h,_,_=>by
  simp[Fy]at h;subst h;simp[Op.eqFields]
 | f :: B,i,a::xs,b::D,r,u,z,h,hx,hy=>by
  simp only[Fy]at h;split at h
  ·rename_i M;simp at M;obtain⟨S,T⟩:=M;split at h
   ·rename_i Y Z L O;cases h;obtain⟨va,H,F⟩:=hx 0 a rfl;obtain⟨vb,I,G⟩:=hy 0 b rfl;have o:∀(J:Array Value)(v:Value),J[i+0]?=Q1 v->(part f.type J f.offset).run P w=.ok v w:=by
     intro J v C;rw[Aa]at C;simp[part,jV (zax L),T,C]
    have X:=PR (d:=d) B (i+1) xs D Z u z O (λj c E=>by
      obtain⟨v,C,W⟩:=hx (j+1) c E;grind)
     (λj c E=>by
      obtain⟨v,C,W⟩:=hy (j+1) c E;grind)
    simp only[Op.eqFields,ne_eq,S,not_false_eq_true,if_true,cI,o u va H,o z vb I,pJ,Vk L F G,Sem.run_ite,pH,X];cases Y<;>simp
   ·cases h
  ·cases h
 |[],_,_::_,_,_,_,_,h,_,_=>by simp[Fy]at h
 |[],_,[],_::_,_,_,_,h,_,_=>by simp[Fy]at h
 |_::_,_,[],_,_,_,_,h,_,_=>by simp[Fy]at h
 |_::_,_,_::_,[],_,_,_,h,_,_=>by simp[Fy]at h
theorem NP{t:TypeId}{x y:AV}{r:Bool}{a b:Value}(h:eqA P t x y=Q1 r)(C:Rv w U ρ x a)(D:Rv w U ρ y b)
  (F:∀k n k' n',x=.int k n->y=.int k' n'->False) (G:∀s s',x=.str s->y=.str s'->False):
  (Op.equal t a b).run P w=.ok r w/\(∀z p q,(eqGuard z t p q a b).run P w=.ok () w)/\((∃c d,a=.bool c/\b=.bool d)\/∃c d,a=.agg c/\b=.agg d):=by
 unfold eqA at h;split at h
 ·rename_i O S;cases C with
  |agg _ vs Z h1 hr=>
  cases D with
  |agg _ B E W H=>
  split at h
  ·rename_i I M;split at h
   ·rename_i J;simp at J;obtain⟨hs,Y⟩:=J;refine⟨?_,λz p q=>run_eqGuard_agg w z t p q _ _ Y,.inr ⟨_,_,rfl,rfl⟩⟩;have L:P.fieldsOf t=I:=by simp[Program.fieldsOf,M]
    show(Op.equalIn (9999+1) t _ _).run P w=_;rw[run_equalIn_struct w 9999 t _ _ (by rw[L];exact M) hs,L];refine PR (U:=U) (ρ:=ρ) (d:=9998) I.toList 0 O S r _ _ h (λj c u=>?_) (λj c u=>?_)
    ·have o:j<Io vs:=by rw[<-Z];exact(dn.1 u).1
     exact⟨vs[j],by simp[zU o],hr j c _ u (zU o)⟩
    ·have o:j<Io B:=by rw[<-E];exact(dn.1 u).1
     exact⟨B[j],by simp[zU o],H j c _ u (zU o)⟩
   ·cases h
  ·cases h
 ·have T:=h;unfold eqT at h;split at h
  ·exact absurd (F _ _ _ _ rfl rfl) id
  ·exact absurd (G _ _ rfl rfl) id
  all_goals first
   |(cases h;have X:=Vk (d:=9999) T C D;cases C;cases D;exact⟨X,λz p q=>by cases z<;>simp[eqGuard],.inl ⟨_,_,rfl,rfl⟩⟩)
   |cases h
theorem ZZ{F:BinOp}{t:TypeId}{x y:AV}{a b:Value}{f:fT}(p q:Operand)(h:(zgF P F t x y).val=Q1 f)(G:Rv w U ρ x a)(H:Rv w U ρ y b)
  (o:∀k n I J,x=.int k n->y=.int I J->False) (u:∀s L,x=.str s->y=.str L->False):
  ∃r z,f={val:=r}/\(do eqGuard F t p q a b;binOp F t a b:Go.Sem Value).run P w=.ok z w/\Rv w U ρ r z:=by
 unfold zgF at h;split at h
 ·split at h
  ·rename_i r E;simp at h;subst h;obtain⟨B,C,D⟩:=NP E G H o u;refine⟨_,.bool r,rfl,?_,.bool r⟩;rw[cI,C];rcases D with⟨c,d,rfl,rfl⟩|⟨c,d,rfl,rfl⟩<;>simp[binOp,B]
  ·simp at h
 ·split at h
  ·rename_i r E;simp at h;subst h;obtain⟨B,C,D⟩:=NP E G H o u;refine⟨_,.bool (!r),rfl,?_,.bool (!r)⟩;rw[cI,C];rcases D with⟨c,d,rfl,rfl⟩|⟨c,d,rfl,rfl⟩<;>simp[binOp,B]
  ·simp at h
 ·simp at h
theorem Rg{k:IntKind}{a b:Int}(o:cy k a)(u:cy k b)(z:b≠0):k.wrap (a.tmod b)=a.tmod b:=by
 have B:=Int.tmod_lt_of_pos;have:(a.tmod b).natAbs<b.natAbs:=by
  rw[Int.natAbs_tmod];exact Nat.mod_lt _ ow
 have C:0<=a->0<=a.tmod b:=λh=>Int.tmod_nonneg b h
 cases k<;>simp[cy,IntKind.min,IntKind.max,IntKind.signed,IntKind.bits]at o u<;>simp[IntKind.wrap,IntKind.signed,IntKind.bits]<;>(try split)<;>omega
theorem zaE{k:IntKind}{a:Int}(h:cy k a):cy k (a/2):=by
 obtain⟨o,u⟩:=h;cases k<;>(simp only[cy,IntKind.min,IntKind.max,IntKind.signed,IntKind.bits]at o u⊢;simp at o u⊢;omega)
theorem Z0{B:BinOp}{t:TypeId}{k:IntKind}{a b:Int}{f:fT}(p q:Operand)(h:(zgG B k a b).val=Q1 f)(C:cy k a)(D:cy k b):
  ∃r z,f={val:=r}/\(do eqGuard B t p q (.int k a) (.int k b);binOp B t (.int k a) (.int k b):Go.Sem Value).run P w=.ok z w/\Rv w U ρ r z:=by
 have u:∀B,(eqGuard B t p q (.int k a) (.int k b)).run P w=.ok () w:=by intro B;cases B<;>simp[eqGuard]
 unfold zgG at h;split at h
 ·simp at h;subst h;exact⟨_,_,rfl,by rw[cI,u];simp[binOp,Op.intArith],.int _ _ (oY _ _)⟩
 ·simp at h;subst h;exact⟨_,_,rfl,by rw[cI,u];simp[binOp,Op.intArith],.int _ _ (oY _ _)⟩
 ·simp at h;subst h;exact⟨_,_,rfl,by rw[cI,u];simp[binOp,Op.intArith],.int _ _ (oY _ _)⟩
 ·simp at h;obtain⟨o,rfl⟩:=h;exact⟨_,_,rfl,by rw[cI,u];simp[binOp,Op.intDiv,o],.int _ _ (oY _ _)⟩
 ·simp at h;obtain⟨o,rfl⟩:=h;refine⟨_,.int k (a.tmod b),rfl,by rw[cI,u];simp[binOp,Op.intDiv,o],?_⟩;rw[Rg C D o];exact .int _ _ (by rw[<-Rg C D o];exact oY _ _)
 ·simp at h;obtain⟨o,rfl⟩:=h;subst o;refine⟨_,.int k (a/2),rfl,?_,.int _ _ (zaE C)⟩;have F:min 1 k.bits=1:=by cases k<;>rfl
  have E:a.fdiv 2=a/2:=by rw[Int.fdiv_eq_ediv_of_nonneg];omega
  rw[cI,u];simp[binOp,Op.shift,F,E]
 all_goals first
  |(simp at h;subst h;exact⟨_,_,rfl,by rw[cI,u];simp[binOp,Op.intCmp],.bool _⟩)
  |simp at h
theorem O4(a b:zD):(⟨a.toArray⟩:ByteArray)++⟨b.toArray⟩=⟨(a++b).toArray⟩:=by
 apply ByteArray.ext;simp
theorem Z1{o:BinOp}{t:TypeId}{a b:zD}{f:fT}(p q:Operand)(h:(zgH o a b).val=Q1 f):
  ∃r z,f={val:=r}/\(do eqGuard o t p q (.string ⟨a.toArray⟩) (.string ⟨b.toArray⟩);binOp o t (.string ⟨a.toArray⟩) (.string ⟨b.toArray⟩):Go.Sem Value).run P w=.ok z w/\Rv w U ρ r z:=by
 have u:∀o,(eqGuard o t p q (.string ⟨a.toArray⟩) (.string ⟨b.toArray⟩)).run P w=.ok () w:=by intro o;cases o<;>simp[eqGuard]
 unfold zgH at h;split at h
 ·simp at h;obtain⟨B,rfl⟩:=h;refine⟨_,.string ⟨(a++b).toArray⟩,rfl,?_,.str _ (by unfold aG;simp;omega)⟩;rw[cI,u];simp[binOp,Op.stringOp,EU,O4];omega
 all_goals first
  |(simp at h;subst h;exact⟨_,_,rfl,by rw[cI,u];simp[binOp,Op.stringOp],.bool _⟩)
  |simp at h
theorem ZY{F:BinOp}{t:TypeId}{x y:AV}{a b:Value}{f:fT}(p q:Operand)(h:(zgE P F t x y).val=Q1 f)(B:Rv w U ρ x a)(C:Rv w U ρ y b):
  ∃r z,f={val:=r}/\(do eqGuard F t p q a b;binOp F t a b:Go.Sem Value).run P w=.ok z w/\Rv w U ρ r z:=by
 unfold zgE at h;split at h
 ·split at h
  ·rename_i I;subst I;cases B with
   |int _ _ G=>
   cases C with
   |int _ _ H=>exact Z0 p q h G H
  ·simp at h
 ·cases B;cases C;exact Z1 p q h
 ·rename_i D E;exact ZZ p q h B C (λk n J L o u=>D k n J L o u) (λs M o u=>E s M o u)
def oT(vs:List Value)(o:Nat):List Value->List Value
 |[]=>vs
 |v::r=>oT (vs.set o v) (o+1) r
theorem ie:∀(r vs:List Value)(o:Nat),(oT vs o r).length=Io vs
 |[],_,_=>rfl
 |v::r,vs,o=>by simp[oT,ie r]
theorem pk:∀(r cs:List AV)(o:Nat),(setCells cs o r).length=Io cs
 |[],_,_=>rfl
 |v::r,cs,o=>by simp[setCells,pk r]
theorem B2:∀(r:List AV)(B:List Value)(cs:List AV)(vs:List Value)(o:Nat),dA w U ρ cs vs->dA w U ρ r B->dA w U ρ (setCells cs o r) (oT vs o B)
 |[],[],cs,vs,o,h,_=>h
 |[],_::_,_,_,_,_,h=>by have:=h.len;simp at this
 |_::_,[],_,_,_,_,h=>by have:=h.len;simp at this
 | c::r,v::B,cs,vs,o,h,h'=>by
  refine B2 r B _ _ (o+1) ⟨by simp[h.len],λj C E u z=>?_⟩ ⟨by have:=h'.len;simpa using this,λj C E u z=>h'.rv (j+1) C E u z⟩;rw[yX]at u z;by_cases F:o=j
  ·simp only[F,if_true]at u z;split at u
   ·rename_i D;rw[if_pos (by rw[<-h.len];exact D)]at z;cases u;cases z;exact h'.rv 0 _ _ rfl rfl
   ·cases u
  ·rw[if_neg F]at u z;exact h.rv j C E u z
theorem ES:∀(u vs:List Value)(o:Nat),(∀v∈vs,v.oneCell'=Q3)->(∀v∈u,v.oneCell'=Q3)->∀v∈oT vs o u,v.oneCell'=Q3
 |[],_,_,h,_=>h
 | v::u,vs,o,h,h'=>ES u _ _ (fun x z=>by
   grind) (λx z=>h' x (by simp[z]))
theorem Dm(cs:List Value):∀(l:List Value)(k:Nat)(o:Nat),(l.zipIdx k).foldl (λ(cs:Array Value)(p:Value×Nat)=>cs.setIfInBounds (o+p.2) p.1) cs.toArray=(oT cs (o+k) l).toArray
 |[],_,_=>rfl
 | v::l,k,o=>by
  simp only[List.zipIdx_cons,List.foldl_cons,oT];have:=Dm (cs.set (o+k) v) l (k+1) o;grind
theorem De{u:Nat->Option (Nat×Nat)}:∀(parts:List (Nat×AV))(o:List (Nat×Value))(cs:List AV)(vs:List Value)(r:List AV),
  G1 u cs parts=Q1 r->dA w U ρ cs vs->(∀v∈vs,v.oneCell'=Q3)->parts.map (·.1)=o.map (·.1)->dA w U ρ (parts.map (·.2)) (o.map (·.2))->
  ∃E,Instr.fill u vs.toArray o=Q1 E/\dA w U ρ r E.toList/\∀v∈E.toList,v.oneCell'=Q3
 | [],[],cs,vs,r,h,G,H,_,_=>by
  simp[G1]at h;subst h;exact⟨vs.toArray,by simp[Instr.fill],by simpa using G,by simpa using H⟩
 |[],_::_,_,_,_,_,_,_,h,_=>by simp at h
 |_::_,[],_,_,_,_,_,_,h,_=>by simp at h
 | (i,c)::parts,(i',v)::o,cs,vs,r,h,G,H,F,hp=>by
  simp at F;obtain⟨rfl,F⟩:=F;simp only[G1]at h;split at h
  ·rename_i D M S hpl I;split at h
   ·rename_i L;obtain⟨Z,h0⟩:=L;obtain⟨z,B⟩:=gU (w:=w) (U:=U) (ρ:=ρ) I (hp.rv 0 c v rfl rfl)
    obtain⟨E,T,W,X⟩:=De parts o _ (oT vs D v.cells.toList) r h (B2 _ _ _ _ _ G z) (ES _ _ _ H B) F
     ⟨by have:=hp.len;simpa using this,λj O v' Y hv=>hp.rv (j+1) O v' Y hv⟩
    refine⟨E,?_,W,X⟩;have C:=z.len;simp only[Array.length_toList]at C;have J:=G.len;simp only[Instr.fill,hpl];rw[if_neg sg];have:=Dm vs v.cells.toList 0 D;rw[Aa]at this;rw[<-T,<-this];congr 1;rw[<-Array.foldl_toList,Array.toList_zipIdx]
   ·cases h
  ·cases h
theorem DX:∀(o:List Field)(ps:List (Nat×Nat)),vN P o=Q1 ps->(o.mapM λf=>do pure (f.offset,<-Go.sizeOf f.type):Go.Sem (List (Nat×Nat))).run P w=.ok ps w
 |[],ps,h=>by simp[vN]at h;subst h;simp
 | f::r,ps,h=>by
  simp only[vN]at h;split at h
  ·rename_i n l z u;cases h;have:=DX r l u;simp only[List.mapM_cons,cI,cQ z,pJ,pH,this]
  ·cases h
theorem R2{t:TypeId}{parts:List (Nat×AV)}{vparts:List (Nat×Value)}{r:AV}(h:Nw P t parts=Q1 r)
  (Y:parts.map (·.1)=vparts.map (·.1)) (hp:dA w U ρ (parts.map (·.2)) (vparts.map (·.2))):
  ∃x,(Instr.build t vparts.toArray).run P w=.ok x w/\Rv w U ρ r x:=by
 have u:∀o,wY P t=Q1 (.agg o)->∃z:Value,(zeroValue t).run P w=.ok z w/\dA w U ρ o z.cells.toList/\∀v∈z.cells.toList,v.oneCell'=Q3:=by
  intro o E;unfold wY at E;split at E
  ·rename_i i F;simp only[eB]at E;obtain⟨z,C,D⟩:=E;have Z:=qY (w:=w) (U:=U) (ρ:=ρ) z;rw[D]at Z;have:=gU (w:=w) (U:=U) (ρ:=ρ) (av:=.agg o) rfl Z;exact⟨z,by simp[zeroValue,typeInfo,F,C],this.1,this.2⟩
  ·cases E
 unfold Nw at h;split at h
 ·rename_i o X E S;split at h
  ·rename_i ps O;simp only[eB]at h;obtain⟨T,h,rfl⟩:=h;obtain⟨z,C,D,G⟩:=u o E;obtain⟨H,I,J,M⟩:=De parts vparts _ _ _ h D G Y hp;refine⟨.agg H,?_,?_⟩
   ·simp only[Ps]at I;have hm:=DX (w:=w) X.toList ps O;have B:(X.mapM λf=>do pure (f.offset,<-Go.sizeOf f.type):Go.Sem (Array (Nat×Nat))).run P w=.ok ps.toArray w:=by
     rw[Array.mapM_eq_mapM_toList,Sem.run_map,hm];rfl
    have L:Instr.fill (λx=>ps.toArray[x]?) z.cells vparts=Q1 H:=by simpa using I
    simp only[Instr.build,cI,C,pJ,bD S,B,L,pH]
   ·have:=Rv.agg (w:=w) (U:=U) (ρ:=ρ) T H.toList J.len M J.rv;simpa using this
  ·cases h
 ·rename_i o h0 W E S;split at h
  ·rename_i n hn;simp only[eB]at h;obtain⟨T,h,rfl⟩:=h;obtain⟨z,C,D,G⟩:=u o E;obtain⟨H,I,J,M⟩:=De parts vparts _ _ _ h D G Y hp;refine⟨.agg H,?_,?_⟩
   ·simp only[Ps]at I;simp[Instr.build,C,bD S,cQ hn,I]
   ·have:=Rv.agg (w:=w) (U:=U) (ρ:=ρ) T H.toList J.len M J.rv;simpa using this
  ·cases h
 ·cases h
end
end Cad
