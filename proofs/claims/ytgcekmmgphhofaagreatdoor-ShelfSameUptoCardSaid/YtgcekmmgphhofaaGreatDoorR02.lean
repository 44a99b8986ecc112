/- The abstract machine. -/
import Derived.WalkKit
import Derived.Deep.AppendSrc
namespace Cad
open Go
open List renaming length->Io,length->M
open Bool renaming false->Q5,false->J,true->Z
open Option renaming none->Q2,some->Q1,some->Y
open Decidable renaming decide->L
variable {α β:Type}
abbrev _root_.Prod.q{p:Type}(x:α×β×p):p:=x.2.2
abbrev _root_.Prod.t{p q s:Type}(x:α×β×p×q×s):s:=x.2.2.2.2
theorem _root_.And.q{a b c:Prop}(h:a/\b/\c):c:=h.2.2
theorem _root_.And.t{a b c d e:Prop}(h:a/\b/\c/\d/\e):e:=h.2.2.2.2
section
variable {A B C D E F G H N P U n o:Type} {a b c d e f g h i j k l m:Prop}
abbrev _root_.Prod.r(x:A×B×C×D):=x.2.2.2
theorem _root_.And.r(x:a/\b/\c/\d):d:=x.2.2.2
abbrev _root_.Prod.u(x:A×B×C×D×E×F):=x.2.2.2.2.2
theorem _root_.And.u(x:a/\b/\c/\d/\e/\f):f:=x.2.2.2.2.2
abbrev _root_.Prod.v(x:A×B×C×D×E×F×G):=x.2.2.2.2.2.2
theorem _root_.And.v(x:a/\b/\c/\d/\e/\f/\g):g:=x.2.2.2.2.2.2
abbrev _root_.Prod.w(x:A×B×C×D×E×F×G×H):=x.2.2.2.2.2.2.2
theorem _root_.And.w(x:a/\b/\c/\d/\e/\f/\g/\h):h:=x.2.2.2.2.2.2.2
abbrev _root_.Prod.x(x:A×B×C×D×E×F×G×H×N):=x.2.2.2.2.2.2.2.2
theorem _root_.And.x(x:a/\b/\c/\d/\e/\f/\g/\h/\i):i:=x.2.2.2.2.2.2.2.2
abbrev _root_.Prod.y(x:A×B×C×D×E×F×G×H×N×P):=x.2.2.2.2.2.2.2.2.2
theorem _root_.And.y(x:a/\b/\c/\d/\e/\f/\g/\h/\i/\j):j:=x.2.2.2.2.2.2.2.2.2
abbrev _root_.Prod.z(x:A×B×C×D×E×F×G×H×N×P×U):=x.2.2.2.2.2.2.2.2.2.2
theorem _root_.And.z(x:a/\b/\c/\d/\e/\f/\g/\h/\i/\j/\k):k:=x.2.2.2.2.2.2.2.2.2.2
abbrev _root_.Prod.s(x:A×B×C×D×E×F×G×H×N×P×U×n):=x.2.2.2.2.2.2.2.2.2.2.2
theorem _root_.And.s(x:a/\b/\c/\d/\e/\f/\g/\h/\i/\j/\k/\l):l:=x.2.2.2.2.2.2.2.2.2.2.2
abbrev _root_.Prod.p(x:A×B×C×D×E×F×G×H×N×P×U×n×o):=x.2.2.2.2.2.2.2.2.2.2.2.2
theorem _root_.And.p(x:a/\b/\c/\d/\e/\f/\g/\h/\i/\j/\k/\l/\m):m:=x.2.2.2.2.2.2.2.2.2.2.2.2
end
theorem ow{p:Prop}(h:p:=by omega):p:=h
theorem sw{p:Prop}(h:p:=by simp):p:=h
theorem sg{p:Prop}(h:p:=by simp;omega):p:=h
theorem kw{p:Prop}(h:p:=by kernel_rfl):p:=h
theorem S0{p:Prop}(h:p:=by rfl):p:=h
theorem ck{a b:α}(h:a=b:=by kernel_rfl):Y a=Y b:=congrArg Y h
abbrev bl0:List UInt8:=[100,101,108,101,116,101]
abbrev bl1:List UInt8:=[100,114,111,112]
abbrev yu:List UInt8:=[103,114,111,117,112]
abbrev bl3:List UInt8:=[105,110,115,101,114,116]
abbrev iK:List UInt8:=[106,111,105,110]
abbrev sJ:List UInt8:=[108,105,116]
abbrev sK:List UInt8:=[110,111,116]
abbrev xY:List UInt8:=[110,117,108,108]
abbrev Dg:List UInt8:=[111,114]
abbrev bl9:List UInt8:=[114,101,97,100]
abbrev Ue:List UInt8:=[115,101,108,101,99,116]
abbrev Uf:List UInt8:=[117,110,114,101,97,100]
abbrev Ug:List UInt8:=[117,110,119,114,105,116,101]
abbrev Uh:List UInt8:=[117,112,100,97,116,101]
abbrev Ui:List UInt8:=[119,114,105,116,101]
abbrev AB:List UInt8:=[32,44,32]
abbrev L4:List UInt8:=[32,65,78,68,32]
abbrev I0:List UInt8:=[32,70,82,79,77,32]
abbrev xX:List UInt8:=[32,73,83,32,78,85,76,76,41]
abbrev Gc:List UInt8:=[32,79,78,32]
abbrev L5:List UInt8:=[32,79,82,32]
abbrev zgz:List UInt8:=[32,83,85,77,32]
abbrev oY:List UInt8:=[39,39]
abbrev zgA:List UInt8:=[40,41,44,61,60,43,45,42]
abbrev sI:List UInt8:=[40,78,79,84,32]
abbrev zmz:List UInt8:=[66,79,79,76]
abbrev I1:List UInt8:=[67,72,69,67,75,32,40,32]
abbrev zmA:List UInt8:=[68,82,79,80,32,84,65,66,76,69,32]
abbrev I2:List UInt8:=[70,65,76,83,69]
abbrev zgB:List UInt8:=[71,82,65,78,84,32]
abbrev zgC:List UInt8:=[71,82,79,85,80]
abbrev zmC:List UInt8:=[73,78,83,69,82,84,32,73,78,84,79,32]
abbrev zmD:List UInt8:=[73,78,84]
abbrev Uj:List UInt8:=[77,73,71,82,65,84,69,32]
abbrev L6:List UInt8:=[78,85,76,76]
abbrev zgD:List UInt8:=[82,69,86,79,75,69,32]
abbrev zmE:List UInt8:=[84,69,88,84]
abbrev I3:List UInt8:=[84,82,85,69]
abbrev lq:List UInt8:=[97,110,100]
abbrev ic:List UInt8:=[99,111,108]
abbrev eR:List UInt8:=[99,111,112,121]
abbrev Uk:List UInt8:=[99,114,101,97,116,101]
abbrev zD:=List UInt8
abbrev Do:=@List.eq_nil_of_length_eq_zero
abbrev oD:=@Array.getD_eq_getD_getElem?
abbrev dq:=@Array.getElem?_eq_some_iff
abbrev bf:=@List.getD_eq_getElem?_getD
abbrev nf:=@List.getElem?_append_right
abbrev oP:=@Array.getElem?_eq_getElem
abbrev sB:=@Classical.byContradiction
abbrev mj:=@List.drop_eq_getElem_cons
abbrev qQ:=@List.getElem?_append_left
abbrev cQ:=@List.getElem?_eq_some_iff
abbrev IS:=@List.mem_or_eq_of_mem_set
abbrev fU:=@Bool.eq_false_or_eq_true
abbrev zQ:=@List.getElem?_eq_getElem
abbrev fV:=@Option.bind_eq_some_iff
abbrev Oq:=@List.getElem?_set_self
abbrev fW:=@MapKept.run_getObj_map
abbrev mi:=@MapKept.run_setObj_map
abbrev dG:=@Option.map_eq_some_iff
abbrev oe:=@Array.getElem?_modify
abbrev lx:=@Array.getElem?_toList
abbrev D0:=@List.contains_iff_mem
abbrev eA:=@List.getElem?_eq_none
abbrev Ot:=@List.getElem?_toArray
abbrev Ou:=@Array.toArray_toList
abbrev wW:=@List.getElem?_set_ne
abbrev og:=@List.mem_cons_of_mem
abbrev fw:=@List.mem_of_getElem?
abbrev IT:=@MapKept.run_checkKey
abbrev gu:=@Nat.mul_le_mul_right
abbrev Ov:=@Nat.pow_le_pow_right
abbrev ly:=@List.getElem?_range
abbrev jf:=@List.getElem_of_mem
abbrev IU:=@MapKept.run_findKey
abbrev fH:=@beq_eq_false_iff_ne
abbrev zO:=@Bool.false_eq_true
abbrev Aq:=@List.getElem?_drop
abbrev cL:=@List.length_append
abbrev sy:=@List.mem_cons_self
abbrev eh:=@List.mem_singleton
abbrev cM:=@Nat.lt_of_lt_of_le
abbrev iH:=@Option.isSome_some
abbrev wX:=@Bool.not_eq_true'
abbrev wY:=@Function.comp_def
abbrev bB:=@Int.toNat_natCast
abbrev iI:=@List.append_assoc
abbrev kE:=@List.ext_getElem?
abbrev b8:=@List.getElem?_map
abbrev oh:=@List.getElem?_set
abbrev D1:=@Nat.succ_le_of_lt
abbrev ax:=@Option.some.injEq
abbrev ol:=@Result.andThen_ok
abbrev kF:=@bne_self_eq_false
abbrev aT:=@decide_eq_true_eq
abbrev eB:=@of_decide_eq_true
abbrev ar:=@Bool.and_eq_true
abbrev g9:=@Bool.not_eq_true
abbrev lz:=@IntKind.wrap_i64
abbrev dg:=@List.all_eq_true
abbrev oO:=@List.drop_length
abbrev bN:=@List.getElem_mem
abbrev bx:=@List.length_cons
abbrev kG:=@List.length_take
abbrev D2:=@List.mem_flatMap
abbrev jg:=@List.take_length
abbrev om:=@MapKept.heap_set
abbrev IV:=@Nat.min_eq_right
abbrev cD:=@Option.getD_some
abbrev Ar:=@Bool.eq_iff_iff
abbrev iJ:=@Bool.or_eq_true
abbrev sA:=@Int.natCast_add
abbrev D3:=@List.append_nil
abbrev oQ:=@List.cons.injEq
abbrev bR:=@List.length_map
abbrev cE:=@List.length_nil
abbrev wZ:=@List.length_set
abbrev fx:=@List.map_append
abbrev bX:=@List.mem_append
abbrev dR:=@List.nil_append
abbrev As:=@Option.map_some
abbrev aQ:=@decide_eq_false
abbrev oR:=@Bool.not_false
abbrev kH:=@Comes.of_steps
abbrev jF:=@List.mem_range
abbrev D4:=@Nat.mul_le_mul
abbrev zL:=@decide_eq_true
abbrev bm:=@run_underlying
abbrev oS:=@Bool.and_self
abbrev gv:=@Bool.not_true
abbrev oT:=@Bool.true_and
abbrev dc:=@List.map_cons
abbrev bD:=@List.mem_cons
abbrev cz:=@Prod.mk.injEq
abbrev hZ:=@List.map_map
abbrev oU:=@List.map_nil
abbrev aN:=@List.mem_map
abbrev oV:=@Nat.add_comm
abbrev w6:=@Nat.add_zero
abbrev aB:=@Nat.le_trans
abbrev sD:=@Nat.pow_succ
abbrev jG:=@Nat.succ_mul
abbrev dz:=@Nat.zero_add
abbrev cw:=@Sem.run_bind
abbrev ry:=@Sem.run_pure
abbrev oN:=@Nat.add_mul
abbrev zK:=@Nat.le_refl
abbrev zU:=@Nat.zero_le
abbrev fG:=@Array.ext'
abbrev be:=@beq_iff_eq
abbrev bT:=@cond_false
abbrev bU:=@cond_true
abbrev aY:=@eq_of_beq
abbrev zf:=@if_pos
abbrev zh:=@if_neg
abbrev zj:=@if_true
abbrev zr:=@if_false
abbrev aJ:=@Prod.eta
abbrev ef:=@decide_eq_false_iff_not
abbrev zp:=@absurd
inductive zg where
 |mk (op:zD) (v:Int×Int×zD) (s:zD) (l:List zg)
def zg.op:zg->zD
 |.mk o _ _ _=>o
def zg.v:zg->Int×Int×zD
 |.mk _ v _ _=>v
def zg.s:zg->zD
 |.mk _ _ s _=>s
def zg.l:zg->List zg
 |.mk _ _ _ l=>l
inductive Sh where
 |unit
 |bool
 |int (k:IntKind)
 |str
 |sl (e:Sh)
 |pr (a b:Sh)
 |expr
 deriving DecidableEq
@[reducible] def Sem:Sh->Type
 |.unit=>Unit
 |.bool=>Bool
 |.int _=>Int
 |.str=>zD
 |.sl e=>List (Sem e)
 |.pr a b=>Sem a×Sem b
 |.expr=>zg
def zk:(s:Sh)->Sem s
 |.unit=>()
 |.bool=>J
 |.int _=>(0:Int)
 |.str=>([]:zD)
 |.sl e=>([]:List (Sem e))
 |.pr a b=>(zk a,zk b)
 |.expr=>zg.mk [] (0,0,[]) [] []
def Sh.size:Sh->Nat
 |.unit=>0
 |.pr a b=>a.size+b.size
 |.expr=>6
 |_=>1
inductive AV where
 |any
 |kb (b:Bool)
 |bool (b:Bool)
 |int (k:IntKind) (n:Int)
 |str (s:zD)
 |nils
 |sl (e:Sh) (l:List (Sem e))
 |vec (id:Nat)
 |ptr (id off:Nat)
 |vptr (id sz i off:Nat)
 |eptr (cells:List AV) (off:Nat)
 |nilp
 |agg (cells:List AV)
 |tup (vs:List AV)
 |clo (fn:Fn) (first caps:List AV)
 |nilf
 |mp (id:Nat)
 |ifc (ec:Bool)
 |tab (k:IntKind) (zs:List Int)
 |gint
@[match_pattern] abbrev ai (n:Int):AV:=.int .i64 n
abbrev ny:AV:=.any
def zq:(s:Sh)->Sem s->List AV
 |.unit,_=>[]
 |.bool,b=>[.bool b]
 |.int k,n=>[.int k n]
 |.str,s=>[.str s]
 |.sl e,l=>[.sl e l]
 |.pr a b,x=>zq a x.1++zq b x.2
 |.expr,e=>[.str e.op,.int .i64 e.v.1,.int .i64 e.v.2.1,.str e.v.q,.str e.s,.sl .expr e.l]
inductive AO where
 |dead
 |box (cells:List AV)
 |vec (e:Sh) (l:List (Sem e))
 |frz (e:Sh) (l:List (Sem e))
 |fmap (es:List (zD×AV))
 |vmap (u:Bool) (es:List ((Int×Int×zD)×Int))
 |gmap (e:Sh) (es:List ((Int×Int×zD)×List (Sem e)))
inductive Tr (α:Type) where
 |err
 |chk (c:Bool) (t:Tr α)
 |br (c:Bool) (t f:Tr α)
 |ok (a:α)
def Tr.val:Tr α->Option α
 |.err=>Q2
 |.chk c t=>if c then t.val else Q2
 |.br c t f=>if c then t.val else f.val
 |.ok a=>Y a
def Tr.bind:Tr α->(α->Tr β)->Tr β
 |.err,_=>.err
 |.chk c t,k=>.chk c (t.bind k)
 |.br c t f,k=>.br c (t.bind k) (f.bind k)
 |.ok a,k=>k a
structure fb where
 val:AV
 wr:List (Nat×AO):=[]
 nw:List AO:=[]
abbrev zV:=List AV->(Nat->AO)->Nat->Tr fb
structure bS where
 P:Program
 sh:TypeId->Option Sh
 gl:Nat->AV
 F:FuncId->Option zV
 own:Bool:=J
structure St where
 tmps:List AV
 heap:List AO
def St.hp(s:St)(id:Nat):AO:=s.heap.getD id .dead
def oX(p:Nat->AO)(e:Sh):AV->Option (List (Sem e))
 |.nils=>Y []
 |.sl x l=>if h:x=e then Y (h▸l)else Q2
 | .vec id=>match p id with
  |.vec x l=>if h:x=e then Y (h▸l)else Q2
  |.frz x l=>if h:x=e then Y (h▸l)else Q2
  |_=>Q2
 |_=>Q2
def tA(x:Nat->AO):List AV->Option (zg×List AV)
 | .str p::.int .i64 k::.int .i64 i::.str vs::.str s::c::r=>match oX x .expr c with
  |some l=>Y (zg.mk p (k,i,vs) s l,r)
  |none=>Q2
 |_=>Q2
def cW(q:Nat->AO):(s:Sh)->List AV->Option (Sem s×List AV)
 |.unit,p=>Y ((),p)
 |.bool,.bool b::r=>Y (b,r)
 |.bool,.kb b::r=>Y (b,r)
 |.int k,.int t n::r=>if t=k then Y (n,r)else Q2
 |.str,.str s::r=>Y (s,r)
 | .sl e,c::r=>match oX q e c with
  |some l=>Y (l,r)
  |none=>Q2
 | .pr a b,p=>match cW q a p with
  | some (x,r)=>match cW q b r with
   |some (y,u)=>Y ((x,y),u)
   |none=>Q2
  |none=>Q2
 |.expr,p=>tA q p
 |_,_=>Q2
def cellsOf:AV->Option (List AV)
 |.any=>Q2
 |.tup _=>Q2
 |.agg x=>Y x
 |v=>Y [v]
def Sh.isAgg:Sh->Bool
 |.pr _ _|.expr|.unit=>Z
 |_=>J
def AV.isAgg:AV->Bool
 |.agg _=>Z
 |_=>J
def w7(hp:Nat->AO)(s:Sh)(v:AV):Option (Sem s):=
 if s.isAgg==v.isAgg then match cellsOf v with
  | some p=>match cW hp s p with
   |some (x,[])=>Y x
   |_=>Q2
  |none=>Q2
 else Q2
def zI(s:Sh)(x:Sem s):AV:=
 match s.isAgg with
 |true=>.agg (zq s x)
 |false=>(zq s x).headD .any
def M3(k:IntKind)(n:Int):Bool:=match k with
 |.i8=>L (-128<=n)&&L (n<=127)
 |.i16=>L (-32768<=n)&&L (n<=32767)
 |.i32=>L (-2147483648<=n)&&L (n<=2147483647)
 |.i64=>L (-9223372036854775808<=n)&&L (n<=9223372036854775807)
 |.u8=>L (0<=n)&&L (n<=255)
 |.u16=>L (0<=n)&&L (n<=65535)
 |.u32=>L (0<=n)&&L (n<=4294967295)
 |.u64=>L (0<=n)&&L (n<=18446744073709551615)
def F2:Value->AV
 |.bool b=>.kb b
 |.int k n=>if M3 k n then .int k n else .any
 |.string s=>if s.data.toList.length<=1000000 then .str s.data.toList else .any
 |.slice Q2 0 0=>.nils
 |.pointer Q2=>.nilp
 |.nilFunc=>.nilf
 |.nilIface=>.ifc Z
 |_=>.any
def zqr:Value->Bool
 |.agg _|.tuple _=>J
 |_=>Z
def xW:Value->AV
 |.agg x=>if x.toList.all zqr then .agg (x.toList.map F2)else .any
 |v=>F2 v
def qt(c:Bool):AV->AV->Option AV
 |.bool a,.bool b=>Y (.bool (cond c a b))
 |.bool a,.kb b=>Y (.bool (cond c a b))
 |.kb a,.bool b=>Y (.bool (cond c a b))
 |.kb a,.kb b=>Y (.bool (cond c a b))
 |.int k a,.int x b=>if k=x then Y (.int k (cond c a b))else Q2
 |.str a,.str b=>Y (.str (cond c a b))
 |_,_=>Q2
def fL(P:Program)(t:TypeId):Option Nat:=(P.info? t).map (·.size)
def rt(P:Program)(t:TypeId):Option AV:=match P.info? t with
 |some i=>i.zero.map xW
 |none=>Q2
def C3(P:Program)(t:TypeId):Option Bool:=match P.underlying t with
 |some (.struct _)|some (.array _ _)=>Y Z
 |some _=>Y J
 |none=>Q2
def Yy(P:Program)(t:TypeId):Option (List AV):=match P.info? t with
 | some i=>match i.zero with
  |some (.map Q2)=>Y [.any]
  |some z=>cellsOf (xW z)
  |none=>Q2
 |none=>Q2
def rp(P:Program)(t:TypeId)(p:List AV)(x:Nat):Option AV:=
 match C3 P t,fL P t with
 |some Z,Y n=>if x+n<=M p then Y (.agg ((p.drop x).take n))else Q2
 |some J,_=>p[x]?
 |_,_=>Q2
def setCells(p:List AV)(x:Nat):List AV->List AV
 |[]=>p
 |v::r=>setCells (p.set x v) (x+1) r
def ff:List AV->Bool
 |[.nilp,_]=>Z
 |[.ptr _ _,_]=>Z
 |_=>J
def xZ:TypeId:=62
def Yl:TypeId:=5
def ret(v:AV):Tr fb:=.ok {val:=v}
def DF:Option AV->Tr fb
 |some v=>ret v
 |none=>.err
def yz(P:Program)(t:TypeId)(f:Nat):Option Field:=match P.underlying t with
 |some (.struct fs)=>fs[f]?
 |_=>Q2
def zT(n:Int)(x:Nat):Bool:=L (0<=n)&&L (n<x)
def cJ:AV->List Nat
 |.vec id=>[id]
 |_=>[]
def Bz:AO->AO
 |.vec e l=>.frz e l
 |o=>o
def nH:AO->Bool
 |.vec _ _|.frz _ _=>Z
 |_=>J
def gm(p:Nat->AO)(x:List Nat):List (Nat×AO):=x.map λid=>(id,Bz (p id))
def eqT(P:Program)(t:TypeId)(x y:AV):Option Bool:=
 match P.underlying t,x,y with
 |some (.int _),.int k a,.int p b=>if k=p then Y (a==b)else Q2
 |some .string,.str a,.str b=>Y (a==b)
 |some .bool,.bool a,.bool b=>Y (a==b)
 |some .bool,.bool a,.kb b=>Y (a==b)
 |some .bool,.kb a,.bool b=>Y (a==b)
 |some .bool,.kb a,.kb b=>Y (a==b)
 |_,_,_=>Q2
def Dw(P:Program):List Field->Nat->List AV->List AV->Option Bool
 |[],_,[],[]=>Y Z
 | f::fs,i,a::xs,b::ys=>if f.name != "_" && f.offset==i then match eqT P f.type a b,Dw P fs (i+1) xs ys with
   |some r,Y s=>Y (r&&s)
   |_,_=>Q2
  else Q2
 |_,_,_,_=>Q2
def eqA(P:Program)(t:TypeId)(x y:AV):Option Bool:=
 match x,y with
 | .agg a,.agg b=>match P.underlying t with
  |some (.struct fs)=>if !P.stoodInHeld t&&!P.eqGuardType P.depth t then Dw P fs.toList 0 a b else Q2
  |_=>Q2
 |x,y=>eqT P t x y
def zgx(x:BinOp)(k:IntKind)(a b:Int):Tr fb:=
 match x with
 |.add=>ret (.int k (k.wrap (a+b)))
 |.sub=>ret (.int k (k.wrap (a-b)))
 |.mul=>ret (.int k (k.wrap (a*b)))
 |.quo=>.chk (b !=0) (ret (.int k (k.wrap (a.tdiv b))))
 |.rem=>.chk (b !=0) (ret (.int k (k.wrap (a.tmod b))))
 |.shr=>.chk (b==1) (ret (.int k (a/2)))
 |.and=>ret (.int k (k.wrap (BitVec.ofInt k.bits a &&& BitVec.ofInt k.bits b).toNat))
 |.xor=>ret (.int k (k.wrap (BitVec.ofInt k.bits a^^^BitVec.ofInt k.bits b).toNat))
 |.or=>ret (.int k (k.wrap (BitVec.ofInt k.bits a ||| BitVec.ofInt k.bits b).toNat))
 |.eql=>ret (.bool (a==b))
 |.neq=>ret (.bool (a !=b))
 |.lss=>ret (.bool (L (a<b)))
 |.leq=>ret (.bool (L (a<=b)))
 |.gtr=>ret (.bool (L (a>b)))
 |.geq=>ret (.bool (L (a>=b)))
 |_=>.err
def zgy(x:BinOp)(a b:zD):Tr fb:=
 match x with
 |.add=>.chk (L (M a+M b<=1099511627776)) (ret (.str (a++b)))
 |.eql=>ret (.bool (a==b))
 |.neq=>ret (.bool (!(a==b)))
 |.lss=>ret (.bool (Op.bytesLess a b))
 |.leq=>ret (.bool (Op.bytesLess a b||a==b))
 |.gtr=>ret (.bool (!(Op.bytesLess a b||a==b)))
 |.geq=>ret (.bool (!Op.bytesLess a b))
 |_=>.err
def zgw(P:Program)(p:BinOp)(t:TypeId)(x y:AV):Tr fb:=
 match p with
 | .eql=>match eqA P t x y with
  |some r=>ret (.bool r)
  |none=>.err
 | .neq=>match eqA P t x y with
  |some r=>ret (.bool (!r))
  |none=>.err
 |_=>.err
def ziO(x:BinOp)(k:IntKind)(a b:Int):Tr fb:=
 match x with
 |.shr=>.chk (L (0<=b)) (ret (.int k (a.fdiv (2^min b.toNat k.bits))))
 |.shl=>.chk (L (0<=b)) (ret (.int k (k.wrap (a*2^min b.toNat k.bits))))
 |_=>.err
def zgv(P:Program)(p:BinOp)(t:TypeId)(x y:AV):Tr fb:=
 match x,y with
 |.int k a,.int q b=>if k=q then zgx p k a b else ziO p k a b
 |.str a,.str b=>zgy p a b
 |x,y=>zgw P p t x y
def EZ(p:Nat->Option (Nat×Nat))(x:List AV):List (Nat×AV)->Option (List AV)
 |[]=>Y x
 | (i,v)::rest=>match p i,cellsOf v with
  |some (q,s),Y t=>if M t=s/\q+M t<=M x then EZ p (setCells x q t) rest else Q2
  |_,_=>Q2
def tX(P:Program):List Field->Option (List (Nat×Nat))
 |[]=>Y []
 | f::r=>match fL P f.type,tX P r with
  |some n,Y l=>Y ((f.offset,n)::l)
  |_,_=>Q2
def L7(P:Program)(t:TypeId)(p:List (Nat×AV)):Option AV:=
 match rt P t,P.underlying t with
 | some (.agg z),Y (.struct fs)=>
  match tX P fs.toList with
  |some q=>(EZ (λi=>q[i]?) z p).map .agg
  |none=>Q2
 | some (.agg z),Y (.array _ x)=>match fL P x with
  |some n=>(EZ (λi=>Y (i*n,n)) z p).map .agg
  |none=>Q2
 |_,_=>Q2
def uW(hp:Nat->AO)(e:Sh):List AV->Option (List (Sem e))
 |[]=>Y []
 | v::r=>match w7 hp e v,uW hp e r with
  |some x,Y l=>Y (x::l)
  |_,_=>Q2
def tD:Nat->List (Nat×AV)->Bool
 |_,[]=>Z
 |n,(i,_)::r=>i==n&&tD (n+1) r
def GD(P:Program)(q:Nat->AO)(t:TypeId):AV->Tr fb
 | .ptr id x=>match q id with
  |.box p=>DF (rp P t p x)
  |_=>.err
 |.eptr p x=>DF (rp P t p x)
 | .vptr id sz i x=>match q id with
  |.vec e l=>if e.size=sz then .chk (L (i<M l)) (DF (rp P t (zq e (l.getD i (zk e))) x))else .err
  |_=>.err
 |_=>.err
def GF(P:Program)(p:Nat->AO)(t:TypeId)(a x:AV):Tr fb:=
 match cellsOf x,fL P t with
 | some v,Q1 sz=>if Io v=sz then match a with
   | .ptr id off=>match p id with
    |.box q=>if off+sz<=M q/\(!ff (setCells q off v)||ff q)=Z then .ok {val:=.tup [],wr:=[(id,.box (setCells q off v))]}else .err
    |_=>.err
   | .vptr id sz' i off=>match p id with
    | .vec e l=>if e.size=sz'∧off+sz≤sz'∧(v.flatMap cJ).all (fun j=>nH (p j)&&j != id) then match cW p e (setCells (zq e (l.getD i (zk e))) off v) with
      |some (x,[])=>.chk (L (i<M l)) (.ok {val:=.tup [],wr:=(id,.vec e (l.set i x))::gm p (v.flatMap cJ)})
      |_=>.err
     else .err
    |_=>.err
   |_=>.err
  else .err
 |_,_=>.err
def GB(P:Program)(t:TypeId)(f:Nat)(x:AV):Tr fb:=
 match yz P t f with
 | some q=>match fL P q.type with
  | some (_+1)=>match x with
   |.ptr id p=>ret (.ptr id (p+q.offset))
   |.eptr s p=>ret (.eptr s (p+q.offset))
   |.vptr id sz i p=>ret (.vptr id sz i (p+q.offset))
   |_=>.err
  |_=>.err
 |none=>.err
def Rc(k:Int)(f:Nat->AV):Nat->Nat->Tr fb
 |_,0=>.err
 |i,1=>ret (f i)
 |i,n+2=>.br (k==(i:Int)) (ret (f i)) (Rc k f (i+1) (n+1))
def pf(P:Program)(v:Nat->AO)(t:TypeId)(x i:AV):Tr fb:=
 match i with
 | .int _ k=>match P.underlying t with
  | some (.slice p)=>match x with
   |.sl e l=>if fL P p=Y e.size then .chk (zT k (M l)) (ret (.eptr (zq e (l.getD k.toNat (zk e))) 0))else .err
   | .vec id=>match v id with
    |.vec e l=>if fL P p=Y e.size then .chk (zT k (M l)) (ret (.vptr id e.size k.toNat 0))else .err
    |.frz e l=>if fL P p=Y e.size then .chk (zT k (M l)) (ret (.eptr (zq e (l.getD k.toNat (zk e))) 0))else .err
    |_=>.err
   |_=>.err
  | some (.array q p)=>match fL P p with
   | some sz=>match x with
    |.ptr id s=>.chk (zT k q) (ret (.ptr id (s+k.toNat*sz)))
    |.eptr u s=>.chk (zT k q) (Rc k (λi=>.eptr u (s+i*sz)) 0 q)
    |_=>.err
   |none=>.err
  |_=>.err
 |_=>.err
def GC(P:Program)(t:TypeId)(x i:AV):Tr fb:=
 match i with
 | .int _ k=>match P.underlying t,x with
  |some .string,.str s=>.chk (zT k (M s)) (ret (.int .u8 (s.getD k.toNat 0).toNat))
  | some (.array q p),.agg u=>match fL P p with
   | some sz=>match rp P p u (k.toNat * sz) with
    |some v=>.chk (zT k q) (ret v)
    |none=>.err
   |none=>.err
  |_,_=>.err
 |_=>.err
def ea(v:AV):List Nat:=match cellsOf v with
 |some x=>x.flatMap cJ
 |none=>[]
def nv(E:bS)(u:Nat->AO)(t:TypeId)(q:Nat)(s:List (Nat×AV)):Tr fb:=
 match E.P.underlying t with
 | some (.slice x)=>match q with
  |0=>if s.isEmpty&&(fL E.P x).isSome then ret .nils else .err
  | _=>match E.sh x with
   | some e=>
    if M s=q&&tD 0 s&&L (q*e.size<=100000)&&(s.flatMap λp=>ea p.2).all (λj=>nH (u j))then match uW u e (s.map (·.2))with
     |some l=>.ok {val:=.sl e l,wr:=gm u (s.flatMap λp=>ea p.2)}
     |none=>.err
    else .err
   |none=>.err
 |_=>.err
def rO(E:bS)(u:Nat->AO)(n:Nat)(t:TypeId)(x:Nat)(s:List (Nat×AV)):Tr fb:=
 match E.P.underlying t with
 | some (.slice q)=>match E.sh q with
  | some e=>
   if M s=x&&tD 0 s&&L (0<x)&&L (x*e.size<=100000)&&(s.flatMap λp=>ea p.2).isEmpty then match uW u e (s.map (·.2))with
    |some l=>.ok {val:=.vec n,nw:=[.vec e l]}
    |none=>.err
   else .err
  |none=>.err
 |_=>.err
def oW:AV->Option Int
 |.int _ k=>Y k
 |_=>Q2
def tj(P:Program)(t:TypeId)(x:AV)(u q v:Option AV):Tr fb:=
 match P.underlying t,x,v with
 | some .string,.str s,Q2=>
  match(match u with|none=>Y 0|some a=>oW a),(match q with|none=>Y (M s:Int)|some a=>oW a)with
  |some l,Y h=>.chk (L (0<=l)&&L (l<=h)&&L (h<=M s)) (ret (.str ((s.drop l.toNat).take (h.toNat-l.toNat))))
  |_,_=>.err
 | some (.slice p),.sl e s,Q2=>if fL P p=Q1 e.size then
   match(match u with|none=>Y 0|some a=>oW a),(match q with|none=>Y (M s:Int)|some a=>oW a)with
   |some l,Y h=>.chk (L (0<=l)&&L (l<=h)&&L (h<=M s)) (ret (.sl e ((s.drop l.toNat).take (h.toNat-l.toNat))))
   |_,_=>.err
  else .err
 | some (.slice p),.sl _ _,Y (.int _ 0)=>match u,q with
  |none,Y (.int _ 0)=>if(fL P p).isSome then ret .nils else .err
  |_,_=>.err
 | some (.slice p),.nils,Y (.int _ 0)=>match u,q with
  |none,Y (.int _ 0)=>if(fL P p).isSome then ret .nils else .err
  |_,_=>.err
 |_,_,_=>.err
def Bm(P:Program)(hp:Nat->AO)(t:TypeId)(x:AV)(q p s:Option AV):Tr fb:=
 match x with
 | .vec id=>match hp id with
  |.vec e l=>(tj P t (.sl e l) q p s).bind λf=>.ok {val:=f.val,wr:=gm hp [id]}
  |.frz e l=>tj P t (.sl e l) q p s
  |_=>.err
 |x=>tj P t x q p s
def VB(P:Program)(q:Nat->AO)(t:TypeId)(x:AV):Tr fb:=
 match P.underlying t with
 | some .string=>match x with
  |.str s=>ret (.int .i64 (M s))
  |_=>.err
 | some (.slice _)=>match x with
  |.nils=>ret (.int .i64 0)
  |.sl _ l=>ret (.int .i64 (M l))
  | .vec id=>match q id with
   |.vec _ l=>ret (.int .i64 (M l))
   |.frz _ l=>ret (.int .i64 (M l))
   |_=>.err
  |_=>.err
 | some (.map _ _)=>match x with
  | .mp id=>match q id with
   |.vmap _ p=>.chk (L (M p<=1073741824)) (ret (.int .i64 (M p)))
   |_=>.err
  |_=>.err
 |_=>.err
def ij(E:bS)(q:Nat->AO)(n:Nat)(p:TypeId)(b x:AV):Tr fb:=
 match E.sh p,b with
 | some e,.nils=>match oX q e x with
  |some l=>.chk (L (M l<=1073741824)) (.ok {val:=.vec n,nw:=[.vec e l]})
  |none=>.err
 | some e,.vec id=>match q id with
  | .vec u t=>if h:u=e then match oX q e x with
    |some s=>.chk (L (M t+M s<=1073741824)) (.ok {val:=.vec n,wr:=[(id,.dead)],nw:=[.vec e ((h▸t:List (Sem e))++s)]})
    |none=>.err
   else .err
  |_=>.err
 |_,_=>.err
def Px(x:List (zD×AV))(s:zD)(z:Tr fb):Tr fb:=match x with
 |[]=>z
 |(k,v)::r=>.br (s==k) (ret v) (Px r s z)
def GS(x:List (zD×AV))(s:zD)(z:Tr fb):Tr fb:=match x with
 |[]=>z
 |(k,v)::r=>.br (s==k) (ret (.tup [v,.kb Z])) (GS r s z)
def N2:AV->Option (Int×Int×zD)
 |.agg [.int .i64 a,.int .i64 b,.str s]=>Y (a,b,s)
 |_=>Q2
def zi1:Bool->AV->Option Int
 |false,.int .i64 n=>Y n
 |true,.agg []=>Y 0
 |_,_=>Q2
def nV(x:List ((Int×Int×zD)×Int))(k:Int×Int×zD):Bool:=x.any λp=>k==p.1
def gp(x:List ((Int×Int×zD)×Int))(k:Int×Int×zD):Int:=((x.find? λp=>k==p.1).map (·.2)).getD 0
def kg(es:List ((Int×Int×zD)×Int))(k:Int×Int×zD)(x:Int):List ((Int×Int×zD)×Int):=match es with
 |[]=>[(k,x)]
 |p::r=>bif k==p.1 then(k,x)::r else p::kg r k x
def js(es:List ((Int×Int×zD)×Int))(k:Int×Int×zD):List ((Int×Int×zD)×Int):=bif nV es k then es else es++[(k,0)]
def ln(es:List ((Int×Int×zD)×Int))(k:Int×Int×zD):Nat:=match es with
 |[]=>0
 |p::r=>bif k==p.1 then 0 else ln r k+1
def jE(q:List ((Int×Int×zD)×Int))(n:Nat)(x:Int):List ((Int×Int×zD)×Int):=match q,n with
 |[],_=>[]
 |p::r,0=>(p.1,x)::r
 |p::r,n+1=>p::jE r n x
def GL(P:Program)(t:TypeId):Bool:=match P.underlying t with
 |some (.int _)=>Z
 |_=>J
def M5(P:Program)(t:TypeId):Bool:=match P.underlying t with
 |some .string=>Z
 |_=>J
def gg(P:Program)(s:TypeId):Bool:=match P.underlying s with
 | some (.struct fs) => !P.stoodInHeld s && !P.eqGuardType P.depth s&&(match fs.toList with
  |[x,p,q]=>x.name !="_"&&x.offset==0&&GL P x.type&&(p.name !="_"&&p.offset==1&&GL P p.type)&&(q.name !="_"&&q.offset==2&&M5 P q.type)
  |_=>J)
 |_=>J
def WF(P:Program)(sh:TypeId->Option Sh)(t:TypeId):Option AO:=match P.underlying t with
 | some (.map x q)=>match P.underlying x with
  |some .string=>Y (.fmap [])
  | _=>if gg P x then match P.underlying q with
    |some (.int .i64)=>Y (.vmap J [])
    |some (.struct fs)=>if fs.size=0 then Y (.vmap Z [])else Q2
    |some (.slice p)=>(sh p).map λe=>.gmap e []
    |_=>Q2
   else Q2
 |_=>Q2
def ti(P:Program)(w:Nat->AO)(t:TypeId)(m k x:AV):Tr fb:=
 match P.underlying t with
 | some (.map y _)=>match P.underlying y with
  | some .string=>match m,k with
   | .mp id,.str s=>match w id with
    |.fmap q=>.chk (!(q.any λp=>p.1==s)) (.ok {val:=.tup [],wr:=[(id,.fmap (q++[(s,x)]))]})
    |_=>.err
   |_,_=>.err
  | some (.struct _)=>if gg P y then match m,N2 k with
    | .mp id,Q1 v=>match w id with
     | .vmap u q=>match zi1 u x with
      |some n=>.ok {val:=.tup [],wr:=[(id,.vmap u (kg q v n))]}
      |none=>.err
     |_=>.err
    |_,_=>.err
   else .err
  |_=>.err
 |_=>.err
def th(P:Program)(q:Nat->AO)(t:TypeId)(m k:AV):Tr fb:=
 match P.underlying t with
 | some (.map s p)=>if gg P s then match m,N2 k with
   | .mp id,Q1 v=>match q id with
    | .vmap J x=>match rt P p with
     |some (.int .i64 z)=>if z=0 then .chk (L (M x<=1073741824)) (.ok {val:=.tup [.int .i64 (gp x v),.int .i64 (ln x v)],wr:=[(id,.vmap J (js x v))]})else .err
     |_=>.err
    |_=>.err
   |_,_=>.err
  else .err
 |_=>.err
def nA(q:Nat->AO)(m s x:AV):Tr fb:=
 match m,s,x with
 | .mp id,.int .i64 n,.int .i64 y=>match q id with
  |.vmap J p=>.chk (zT n (M p)) (.ok {val:=.tup [],wr:=[(id,.vmap J (jE p n.toNat y))]})
  |_=>.err
 |_,_,_=>.err
def zd7(P:Program)(x:TypeId):Tr fb:=match rt P x with
 |some z=>ret (.tup [z,.kb J])
 |none=>.err
def jW{e:Sh}(x:List ((Int×Int×zD)×List (Sem e)))(k:Int×Int×zD):List (Sem e):=match x with
 |[]=>[]
 |p::r=>bif k==p.1 then p.2 else jW r k
def lr{α:Type}(x:List ((Int×Int×zD)×α))(k:Int×Int×zD):List ((Int×Int×zD)×α):=match x with
 |[]=>[]
 |p::r=>bif k==p.1 then r else p::lr r k
def Bk(P:Program)(p:Nat->AO)(t:TypeId)(m k:AV):Tr fb:=
 match P.underlying t with
 | some (.map q _)=>if gg P q then match m,N2 k with
   | .mp id,Y v=>match p id with
    |.gmap e x=>.ok {val:=.tup [],wr:=[(id,.gmap e (lr x v))]}
    |_=>.err
   |_,_=>.err
  else .err
 |_=>.err
def kM(P:Program)(w:Nat->AO)(t:TypeId)(x i:AV)(two:Bool):Tr fb:=
 match P.underlying t with
 | some (.map y q)=>match P.underlying y with
  | some .string=>match x,i with
   | .mp id,.str s=>match w id with
    |.fmap p=>if two then GS p s (zd7 P q)else Px p s (DF (rt P q))
    |_=>.err
   |_,_=>.err
  | some (.struct _)=>if gg P y then match x,N2 i with
    | .mp id,Q1 v=>match w id with
     | .vmap u p=>match rt P q with
      |some (.int .i64 z)=>if u=J/\z=0 then ret (ite two (.tup [.int .i64 (gp p v),.bool (nV p v)]) (.int .i64 (gp p v)))else .err
      |some (.agg cs)=>if u=Z/\cs.isEmpty=Z then ret (ite two (.tup [.agg [],.bool (nV p v)]) (.agg []))else .err
      |_=>.err
     | .gmap e p=>match rt P q with
      |some .nils=>if two=J then ret (.sl e (jW p v))else .err
      |_=>.err
     |_=>.err
    |_,_=>.err
   else .err
  |_=>.err
 |_=>.err
def zR(s:zD):List Int:=s.map λc=>(c.toNat:Int)
def Gz(E:bS)(q:Nat->AO)(n:Nat)(p:TypeId)(b x:AV):Tr fb:=
 match E.sh p,x with
 |some (.int .u8),.str s=>ij E q n p b (.sl (.int .u8) (zR s))
 |_,_=>.err
def VA(E:bS)(q:Operand->AV)(s:Nat->AO)(n:Nat)(c:Call):Tr fb:=
 match c.callee with
 | .value f=>match q f with
  | .clo (.func k) first caps=>match E.F k with
   |some F=>F (first++c.args.toList.map q++caps) s n
   |none=>.err
  |_=>.err
 | .builtin .len=>match c.args.toList.map q,c.argTypes.toList with
  |[x],[t]=>VB E.P s t x
  |_,_=>.err
 | .builtin .append=>match c.args.toList.map q,c.argTypes.toList with
  | [b,x],[t,t']=>match E.P.underlying t,E.P.underlying t' with
   |some (.slice p),Y (.slice _)=>ij E s n p b x
   |some (.slice p),Y .string=>Gz E s n p b x
   |_,_=>.err
  |_,_=>.err
 | .builtin .delete=>match c.args.toList.map q,c.argTypes.toList with
  |[m,k],[t,_]=>Bk E.P s t m k
  |_,_=>.err
 |_=>.err
def aL(l:List Int):zD:=l.map λn=>UInt8.ofNat n.toNat
def nz(P:Program)(x:TypeId):AV->Tr fb
 | .sl (.int .u8) l=>match P.underlying x with
  |some (.int .u8)=>ret (.str (aL l))
  |_=>.err
 |_=>.err
def Bj(P:Program)(p:Nat->AO)(x:TypeId)(id:Nat):Tr fb:=
 match p id with
 |.vec (.int .u8) l=>nz P x (.sl (.int .u8) l)
 |.frz (.int .u8) l=>nz P x (.sl (.int .u8) l)
 |_=>.err
def pg(E:bS)(q:Operand->AV)(v:Nat->AO)(n:Nat)(o:Oper):Tr fb:=
 match o.op with
 |.move x|.assign x=>ret (q x)
 | .pick c a b=>match q c with
  |.kb Z=>ret (q a)
  |.kb J=>ret (q b)
  |.bool x=>DF (qt x (q a) (q b))
  |_=>.err
 | .box t x=>match cellsOf (q x) with
  |some w=>if(!ff w||t==xZ)=Z then .ok {val:=.ptr n 0,nw:=[.box w]}else .err
  |none=>.err
 | .alloc t=>match Yy E.P t with
  |some w=>if(!ff w||t==xZ)=Z then .ok {val:=.ptr n 0,nw:=[.box w]}else .err
  |none=>.err
 |.load t a=>GD E.P v t (q a)
 |.store t a x=>GF E.P v t (q a) (q x)
 |.fieldAddr t x f=>GB E.P t f (q x)
 | .field t x f=>match yz E.P t f,q x with
  |some fd,.agg w=>DF (rp E.P fd.type w fd.offset)
  |_,_=>.err
 |.indexAddr t x i=>pf E.P v t (q x) (q i)
 |.index t x i=>GC E.P t (q x) (q i)
 |.build t u=>DF (L7 E.P t (u.toList.map λp=>(p.1,q p.2)))
 | .buildSlice t z u=>match E.own with
  |true=>rO E v n t z (u.toList.map λp=>(p.1,q p.2))
  |false=>nv E v t z (u.toList.map λp=>(p.1,q p.2))
 |.binOp op t x y _=>zgv E.P op t (q x) (q y)
 | .unOp .not _ x=>match q x with
  |.bool b=>ret (.bool (!b))
  |.kb b=>ret (.kb (!b))
  |_=>.err
 | .unOp .neg _ x=>match q x with
  |.int k a=>ret (.int k (k.wrap (0-a)))
  |_=>.err
 | .convert h1 h0 x=>match E.P.underlying h1,E.P.underlying h0,q x with
  |some _,Y (.int k),.int _ a=>ret (.int k (k.wrap a))
  |some _,Y .string,.str s=>ret (.str s)
  |some (.slice el),Y .string,.sl e l=>nz E.P el (.sl e l)
  |some (.slice el),Y .string,.vec id=>Bj E.P v el id
  |_,_,_=>.err
 |.slice t x lo hi mx=>Bm E.P v t (q x) (lo.map q) (hi.map q) (mx.map q)
 | .extract x i=>match q x with
  |.tup vs=>DF vs[i]?
  |_=>.err
 |.makeFunc fn first caps=>ret (.clo fn (first.toList.map q) (caps.toList.map q))
 | .nilCheck x=>match q x with
  |.ptr a b=>ret (.ptr a b)
  |.eptr a b=>ret (.eptr a b)
  |.vptr a b c d=>ret (.vptr a b c d)
  |.clo (.func f) a b=>ret (.clo (.func f) a b)
  |_=>.err
 |.call c=>VA E q v n c
 | .makeMap t Q2=>match WF E.P E.sh t with
  |some o=>.ok {val:=.mp n,nw:=[o]}
  |none=>.err
 |.insert t m k x=>ti E.P v t (q m) (q k) (q x)
 |.mapUpdate t m k x=>ti E.P v t (q m) (q k) (q x)
 |.lookup t x i two=>kM E.P v t (q x) (q i) two
 |.mapEntry t m k=>th E.P v t (q m) (q k)
 |.entryStore _ m s x=>nA v (q m) (q s) (q x)
 |_=>.err
mutual
def AV.ids:AV->List Nat
 |.vec id|.ptr id _|.vptr id _ _ _|.mp id=>[id]
 |.eptr x _|.agg x|.tup x=>AV.idsL x
 |.clo _ a b=>AV.idsL a++AV.idsL b
 |_=>[]
def AV.idsL:List AV->List Nat
 |[]=>[]
 |v::r=>v.ids++AV.idsL r
end
mutual
def AV.ren(f:Nat->Nat):AV->AV
 |.vec id=>.vec (f id)
 |.ptr id o=>.ptr (f id) o
 |.vptr id sz i o=>.vptr (f id) sz i o
 |.mp id=>.mp (f id)
 |.eptr x o=>.eptr (AV.renL f x) o
 |.agg x=>.agg (AV.renL f x)
 |.tup x=>.tup (AV.renL f x)
 |.clo g a b=>.clo g (AV.renL f a) (AV.renL f b)
 |v=>v
def AV.renL(f:Nat->Nat):List AV->List AV
 |[]=>[]
 |v::r=>v.ren f::AV.renL f r
end
def AO.ids:AO->List Nat
 |.box x=>AV.idsL x
 |.fmap p=>AV.idsL (p.map (·.2))
 |_=>[]
def AO.ren(f:Nat->Nat):AO->AO
 |.box x=>.box (AV.renL f x)
 |.fmap q=>.fmap (q.map λp=>(p.1,p.2.ren f))
 |o=>o
def jT(x:Nat->AO):Nat->List Nat->List Nat->List Nat
 |0,_,s=>s
 |_+1,[],s=>s
 |n+1,i::r,s=>if s.contains i then jT x n r s else jT x n (r++(x i).ids) (s++[i])
def gT:Op->Bool
 |.load ..|.store ..|.indexAddr ..|.buildSlice ..|.slice ..|.call _|.insert ..|.mapUpdate ..|.lookup ..|.mapEntry ..|.entryStore ..|.convert ..=>Z
 |_=>J
def rG:Op->Bool
 |.call _=>Z
 |_=>J
def tt(p:Nat->AO)(x:Operand->AV)(o:Oper):List Nat:=
 if rG o.op then jT p 400 (AV.idsL (o.op.operands.toList.map x)) []else if gT o.op then AV.idsL (o.op.operands.toList.map x)else[]
def JV(p:Nat->AO)(x:Operand->AV)(o:Oper):Bool:=
 !gT o.op||(AV.idsL (o.op.operands.toList.map x)).all (λi=>(tt p x o).contains i)&&(!rG o.op||(tt p x o).all (λi=>(p i).ids.all λj=>(tt p x o).contains j))
structure DX where
 fp:List Nat:=[]
 wr:List Nat:=[]
 base:Nat:=0
 nw:Nat:=0
structure RS where
 tmps:List AV
 heap:List AO
 known:List (Nat×Bool):=[]
 touched:Bool:=J
 log:List DX:=[]
def RS.hp(s:RS)(id:Nat):AO:=s.heap.getD id .dead
def uI(E:bS)(tmps:List AV)(known:List (Nat×Bool)):Operand->AV
 | .tmp t=>match known.lookup t with
  |some b=>.kb b
  |none=>tmps.getD t .any
 |.const v=>xW v
 |.global g=>E.gl g
 |.func f=>.clo (.func f) [] []
def mX(h:List AO):List (Nat×AO)->List AO
 |[]=>h
 |(i,o)::r=>mX (h.set i o) r
def lu(tmps:List AV)(x:Option Tmp)(v:AV):List AV:=match x with
 |some d=>tmps.set d v
 |none=>tmps
def rR(known:List (Nat×Bool))(x:Option Tmp):List (Nat×Bool):=match x with
 |some d=>known.filter λp=>p.1!=d
 |none=>known
def DB(E:bS)(o:Oper)(s:RS):Tr RS:=
  if JV s.hp (uI E s.tmps s.known) o then
  (pg E (uI E s.tmps s.known) s.hp s.heap.length o).bind λf=>
    if f.wr.all (λp=>p.1<s.heap.length&&(tt s.hp (uI E s.tmps s.known) o).contains p.1)then
    .ok {tmps:=lu s.tmps o.dst f.val,heap:=mX s.heap f.wr++f.nw,known:=rR s.known o.dst,
          touched:=s.touched||!(f.wr.isEmpty&&f.nw.isEmpty),
          log:=s.log++[{fp:=tt s.hp (uI E s.tmps s.known) o,wr:=f.wr.map (·.1),base:=s.heap.length,nw:=f.nw.length}]}
    else .err
  else .err
def mb(o:Oper)(s:RS):RS:=
 {s with tmps:=lu s.tmps o.dst (.tup []),known:=rR s.known o.dst,log:=s.log++[{}]}
def sj(E:bS)(x:List Oper)(s:RS)(o:Oper):Tr RS:=
 match o.guard with
 |none=>DB E o s
 | some (j,w)=>match (x[j]?).bind (·.dst) with
  |none=>.ok (mb o s)
  | some d=>match uI E s.tmps s.known (.tmp d) with
   |.kb b=>if b==w then DB E o s else .ok (mb o s)
   |.tup _=>.ok (mb o s)
   | .bool b=>
    let y:RS:={s with known:=(d,Z)::s.known}
    let p:RS:={s with known:=(d,J)::s.known}
    .br b (ite w (DB E o y) (.ok (mb o y))) (ite w (.ok (mb o p)) (DB E o p))
   |_=>.err
def bP(E:bS)(ops:List Oper):List Oper->RS->Tr RS
 |[],s=>.ok s
 |o::r,s=>(sj E ops s o).bind (bP E ops r)
def Rp(x:List Oper):List Nat:=x.filterMap (·.dst)
def dE(c:Bool):List Nat->List AV->List AV->List AV->List AV
 |[],p,_,_=>p
 |d::r,p,t,f=>dE c r (p.set d ((qt c (t.getD d .any) (f.getD d .any)).getD .any)) t f
def ZI:AV->AV->Bool
 |.clo (.func a) _ _,.clo (.func b) _ _=>a !=b
 |.clo _ _ _,.nilf=>Z
 |.nilf,.clo _ _ _=>Z
 |_,_=>J
def sO(x:List Nat)(l p:List AV):Bool:=x.any λd=>ZI (l.getD d .any) (p.getD d .any)
def flat(x:List Nat)(p:List AV):Tr RS->Option (Option Bool×List AV)
 |.err=>Q2
 |.ok s=>if s.touched then Q2 else Y (Q2,s.tmps)
 | .chk c t=>match flat x p t with
  |some (Q2,l)=>Y (Y c,l)
  |some (Y u,l)=>Y (Y (c&&u),l)
  |none=>Q2
 | .br c t f=>match flat x p t,flat x p f with
  |some (Q2,l),Y (Q2,q)=>if sO x l q then Q2 else Y (Q2,dE c x p l q)
  |some (Y a,l),Y (Q2,q)=>if sO x l q then Q2 else Y (Y (cond c a Z),dE c x p l q)
  |some (Q2,l),Y (Y b,q)=>if sO x l q then Q2 else Y (Y (cond c Z b),dE c x p l q)
  |some (Y a,l),Y (Y b,q)=>if sO x l q then Q2 else Y (Y (cond c a b),dE c x p l q)
  |_,_=>Q2
def znR{α:Type}:Tr α->Bool
 |.br ..=>Z
 |.chk _ t=>znR t
 |_=>J
def Zs:List Oper->List (List Nat)->List (List Nat)
 |[],x=>x
 |o::r,x=>Zs r (x++[o.after.toList.flatMap λe=>if Region.binds .any e then e.on::x.getD e.on []else[]])
def e7(x:List Oper)(o:Oper):List Nat:=
  (o.op.operands.toList.filterMap λ|.tmp t=>Y t|_=>Q2)++
  (match o.guard with
   |some (j,_)=>((x[j]?).bind (·.dst)).toList
   |none=>[])
def iy(a b:List Nat):Bool:=a.any λx=>b.contains x
def fX(r:DX)(x:Nat):Bool:=L (r.base<=x)&&L (x<r.base+r.nw)
def sN(x:List Oper)(p q:Oper)(ri rj:DX):Bool:=
 iy p.dst.toList (e7 x q)||iy p.dst.toList q.dst.toList||iy (e7 x p) q.dst.toList||
 iy ri.wr rj.fp||iy ri.fp rj.wr||rj.fp.any (fX ri)||ri.fp.any (fX rj)
def dF(r:DX)(id:Nat):Bool:=r.wr.contains id||fX r id
def X1(x:List Oper)(s:List DX)(v:List (List Nat))(i j:Nat)(p q:Oper)(t u:DX):Bool:=
 match p.op,q.op,t.fp,u.wr with
 | .lookup _ _ _ Q5,.mapEntry _ _ _,[a],[b]=>b==a&&t.wr.isEmpty&&t.nw==0&&u.nw==0&&
  !(iy p.dst.toList (e7 x q)||iy p.dst.toList q.dst.toList||iy (e7 x p) q.dst.toList)&&
  (List.range (M x)).all λl=>match s[l]? with
   |some w=>!dF w a||L (l<i)||l==j||(L (j<l)&&(v.getD l []).contains i)
   |none=>J
 |_,_,_,_=>J
def tT(x:List Oper)(q:List DX):Bool:=
 let s:=Zs x []
 (x.zipIdx.all λp=>p.1.after.toList.all λe=>!Region.binds .any e||L (e.on<p.2))&&
 (List.range (M x)).all λj=>(List.range j).all λi=>
  match x[i]?,x[j]?,q[i]?,q[j]? with
  |some t,Y u,Y v,Y w=>!sN x t u v w||(s.getD j []).contains i||X1 x q s i j t u v w
  |_,_,_,_=>J
def checked(x:List Oper):Tr RS->Tr RS
 |.err=>.err
 |.chk c t=>.chk c (checked x t)
 |.br c t f=>.br c (checked x t) (checked x f)
 |.ok s=>if tT x s.log then .ok s else .err
def RS.out(s:RS):St:={tmps:=s.tmps,heap:=s.heap}
def iT(E:bS)(ops:List Oper)(draw:Bool)(x:St):Tr St:=
 let t0:=bP E ops ops {tmps:=x.tmps,heap:=x.heap}
 let t:=if draw then checked ops t0 else t0
 if znR t then match flat (Rp ops) x.tmps t with
  |some (Q2,l)=>.ok {x with tmps:=l}
  |some (Y c,l)=>.chk c (.ok {x with tmps:=l})
  |none=>t.bind λs=>.ok s.out
 else t.bind λs=>.ok s.out
inductive zM where
 |head (key:Nat) (k:List Item) (st:St)
 |ret (v:AV) (heap:List AO)
 |fork (c:Bool) (k1 k2:List Item) (st:St)
def GZ:Code->Code->Option (Nat×Nat×Nat×TypeId×Code×Code)
 | .region _ ops Q5,.cond (.tmp d') a b=>match ops.toList with
  | [o1,o2]=>match o1.dst,o1.op,o1.guard,o2.dst,o2.op,o2.guard with
   |some x,.move (.tmp s),Q2,Y d,.binOp .eql t (.tmp p) (.const (.slice Q2 0 0)) _,Q2=>if p=x/\d'=d/\x≠d then Y (s,x,d,t,a,b)else Q2
   |_,_,_,_,_,_=>Q2
  |_=>Q2
 |_,_=>Q2
def Gn(x:Nat->AO):AV->Option Bool
 |.nils=>Y Z
 |.sl _ l=>Y l.isEmpty
 | .vec id=>match x id with
  |.vec _ l=>Y l.isEmpty
  |.frz _ l=>Y l.isEmpty
  |_=>Q2
 |_=>Q2
def M4(P:Program)(t:TypeId):Bool:=match P.underlying t with
 |some (.slice _)=>Z
 |_=>J
def DE(keep:List Nat):Nat->List AV->List AV
 |_,[]=>[]
 |i,v::r=>(ite (keep.contains i) v (.any))::DE keep (i+1) r
def tY(x:St):Nat×Option Nat×Sh->St
 | (s,Q2,e)=>match x.tmps.getD s .any with
  |.nils=>{tmps:=x.tmps.set s (.vec x.heap.length),heap:=x.heap++[.vec e []]}
  |_=>x
 | (s,some c,e)=>match x.tmps.getD s .any with
  | .ptr id 0=>match x.hp id with
   | .box p=>match p.getD c .any with
    |.nils=>{tmps:=x.tmps,heap:=x.heap.set id (.box (p.set c (.vec x.heap.length)))++[.vec e []]}
    |_=>x
   |_=>x
  |_=>x
def FB(x:St):Nat×Nat->St
 | (s,c)=>match x.tmps.getD s .any with
  | .ptr id 0=>match x.hp id with
   | .box p=>match p.getD c .any with
    | .vec k=>match Bz (x.hp k) with
     |.frz e l=>{tmps:=x.tmps,heap:=(x.heap.set k (.frz e l)).set id (.box (p.set c (.sl e l)))}
     |_=>x
    |_=>x
   |_=>x
  |_=>x
structure aR where
 slots:List Nat:=[]
 prom:List (Nat×Option Nat×Sh):=[]
 unroll:Bool:=J
 sett:List (Nat×Nat):=[]
 cut:Bool:=J
def PD:List Nat->Bool
 |[]=>Z
 |i::r=>!r.contains i&&PD r
def kh(hp:Nat->AO)(n0:Nat)(p x:List Nat):Bool:=
 p.all (λi=>x.contains i)&&x.all (λi=>(hp i).ids.all λj=>x.contains j)&&PD x&&x.take n0==List.range n0
def zd1(n0:Nat)(s:St):Option St:=
 let x:=jT s.hp 400 (List.range n0++AV.idsL s.tmps) []
 if kh s.hp n0 (AV.idsL s.tmps) x then
  Y {tmps:=AV.renL (λi=>x.idxOf i) s.tmps,heap:=x.map λi=>(s.hp i).ren λi=>x.idxOf i}
 else Q2
def zh4(n0:Nat)(k:aR)(s:St):Option St:=
 zd1 n0 (k.prom.foldl tY {s with tmps:=DE k.slots 0 s.tmps})
def kQ(n0:Nat)(k:aR)(x:Nat)(t:List Item)(p:St):Tr zM:=
 match zh4 n0 k p with
 |some s=>.ok (.head x t s)
 |none=>.err
def eM:Code->Nat
 |.region id _ _=>id
 |.seq a _=>eM a
 |.block _ c=>eM c
 |.loop c=>eM c
 |.scope c=>eM c
 |_=>0
def HH(E:bS)(s:St):ResultVar->Option AV
 |.tmp t=>Y (s.tmps.getD t .any)
 | .cell a t=>match s.tmps.getD a .any with
  | .ptr id off=>match s.hp id with
   |.box x=>rp E.P t x off
   |_=>Q2
  |_=>Q2
def ud(E:bS)(s:St):List ResultVar->Option (List AV)
 |[]=>Y []
 | r::rs=>match HH E s r,ud E s rs with
  |some v,Y x=>Y (v::x)
  |_,_=>Q2
def Hc:List AV->AV
 |[v]=>v
 |vs=>.tup vs
def uc(E:bS)(n0:Nat)(p:List ResultVar)(s:St):Tr zM:=
 match ud E s p with
 | some q=>
  let v:AV:=Hc q
  let x:=jT s.hp 400 (List.range n0++v.ids) []
  if kh s.hp n0 v.ids x then .ok (.ret (v.ren λi=>x.idxOf i) (x.map λi=>(s.hp i).ren λi=>x.idxOf i))else .err
 |none=>.err
def yv(s:St)(c:Operand)(b:Bool):St:=match c with
 |.tmp t=>{s with tmps:=s.tmps.set t (.kb b)}
 |_=>s
def run(E:bS)(n0:Nat)(keep:Nat->aR)(q:List ResultVar):Nat->List Item->St->Tr zM
 |0,_,_=>.err
 | n + 1,v,p=>match v with
  |[]=>uc E n0 q ((keep 1000000).sett.foldl FB ((keep 1000000).prom.foldl tY p))
  |.inBlock _::k=>run E n0 keep q n k p
  |.inLoop c::k=>if(keep (eM c)).unroll then run E n0 keep q n (.code c::.inLoop c::k) p else kQ n0 (keep (eM c)) (eM c) (.code c::.inLoop c::k) p
  | .code c::k=>match c with
   |.skip=>run E n0 keep q n k p
   |.label _=>run E n0 keep q n k p
   | .seq a b=>match GZ a b with
    | some (s,x,d,t,y,w)=>match Gn p.hp (p.tmps.getD s .any) with
     |some c=>if M4 E.P t&&(L (d<p.tmps.length)&&L (x<p.tmps.length))then .ok (.fork c (.code y::k) (.code w::k) {p with tmps:=(p.tmps.set x (p.tmps.getD s .any)).set d .any})else .err
     |none=>.err
    |none=>run E n0 keep q n (.code a::.code b::k) p
   | .cond c a b=>match uI E p.tmps [] c with
    |.kb Z=>run E n0 keep q n (.code a::k) p
    |.kb J=>run E n0 keep q n (.code b::k) p
    |.bool x=>.br x (run E n0 keep q n (.code a::k) (yv p c Z)) (run E n0 keep q n (.code b::k) (yv p c J))
    |_=>.err
   |.block id c=>run E n0 keep q n (.code c::.inBlock id::k) p
   |.loop c=>if(keep (eM c)).unroll then run E n0 keep q n (.code c::.inLoop c::k) p else kQ n0 (keep (eM c)) (eM c) (.code c::.inLoop c::k) p
   | .exit id=>match exitTo id k with
    |some z=>run E n0 keep q n z p
    |none=>.err
   |.ret=>uc E n0 q ((keep 1000000).sett.foldl FB ((keep 1000000).prom.foldl tY p))
   |.region id ops draw=>(iT E ops.toList draw p).bind λu=>if(keep (id+500000)).cut then kQ n0 (keep (id+500000)) (id+500000) k u else run E n0 keep q n k u
   |_=>.err
  |_=>.err
def aC(n:Nat)(args:List AV)(heap:List AO):St:={tmps:=args++List.replicate (n-M args) (.tup []),heap}
def tm(n:Nat)(l:List (Nat×AV)):List AV:=l.foldl (λa p=>a.set p.1 p.2) (List.replicate n .any)
end Cad
