/- The abstract machine: definitions alone. What abstract values say of the model's values, and what stays as memory grows. What each operation of the abstract machine says of the model's one. What each operation says: those that only compute. -/
import GoSem.Step
import Derived.KernelRfl
import Derived.WalkKit
import Derived.Deep.AppendSrc
import Derived.Laws.IdiomCopy
import Derived.MapKept
import Derived.Laws.StructEq
namespace Cad
open Go

abbrev zw:=List UInt8
abbrev t7:=@List.eq_nil_of_length_eq_zero
abbrev kT:=@Array.getD_eq_getD_getElem?
abbrev Bv:=@Array.getElem?_eq_some_iff
abbrev aP:=@List.getD_eq_getElem?_getD
abbrev ml:=@List.getElem?_append_right
abbrev jO:=@Array.getElem?_eq_getElem
abbrev qL:=@Classical.byContradiction
abbrev dF:=@List.drop_eq_getElem_cons
abbrev kv:=@List.getElem?_append_left
abbrev cn:=@List.getElem?_eq_some_iff
abbrev JW:=@List.mem_or_eq_of_mem_set
abbrev zG:=@Bool.eq_false_or_eq_true
abbrev zP:=@List.getElem?_eq_getElem
abbrev fO:=@Option.bind_eq_some_iff
abbrev xy:=@List.drop_eq_nil_of_le
abbrev xz:=@List.getElem?_set_self
abbrev JX:=@List.take_of_length_le
abbrev lr:=@MapKept.run_getObj_map
abbrev BY:=@MapKept.run_setObj_map
abbrev cW:=@Option.map_eq_some_iff
abbrev FW:=@World.frozen?_of_block
abbrev BZ:=@Array.getElem?_modify
abbrev B1:=@Array.getElem?_toList
abbrev xA:=@List.contains_iff_mem
abbrev dO:=@List.getElem?_eq_none
abbrev FX:=@List.getElem?_toArray
abbrev JY:=@Array.toArray_toList
abbrev xB:=@List.getElem?_set_ne
abbrev B2:=@List.mem_cons_of_mem
abbrev kC:=@List.mem_of_getElem?
abbrev FY:=@MapKept.run_checkKey
abbrev fP:=@Nat.mul_le_mul_right
abbrev B3:=@Nat.pow_le_pow_right
abbrev xC:=@List.getD_cons_succ
abbrev B4:=@List.getElem?_range
abbrev kD:=@List.getElem_of_mem
abbrev FZ:=@MapKept.run_findKey
abbrev bO:=@beq_eq_false_iff_ne
abbrev zV:=@Bool.false_eq_true
abbrev rO:=@List.getElem?_drop
abbrev B5:=@List.getElem?_take
abbrev iM:=@List.length_append
abbrev B6:=@List.mem_cons_self
abbrev cz:=@List.mem_singleton
abbrev nB:=@Nat.lt_of_lt_of_le
abbrev F0:=@Option.isSome_some
abbrev vn:=@Function.comp_def
abbrev F1:=@Int.lt_trichotomy
abbrev bd:=@Int.toNat_natCast
abbrev xD:=@List.append_assoc
abbrev dP:=@List.getElem?_map
abbrev nC:=@List.getElem?_set
abbrev xE:=@Nat.succ_le_of_lt
abbrev bz:=@Option.some.injEq
abbrev kE:=@Result.andThen_ok
abbrev vo:=@bne_self_eq_false
abbrev aN:=@decide_eq_true_eq
abbrev jh:=@of_decide_eq_true
abbrev aV:=@Bool.and_eq_true
abbrev ji:=@Bool.not_eq_true
abbrev fD:=@IntKind.wrap_i64
abbrev fE:=@List.all_eq_true
abbrev ey:=@List.drop_length
abbrev bP:=@List.getElem_mem
abbrev mY:=@List.length_cons
abbrev B7:=@List.lookup_cons
abbrev F2:=@List.mem_flatMap
abbrev vp:=@List.take_length
abbrev xF:=@MapKept.heap_set
abbrev cX:=@Option.getD_some
abbrev iN:=@Bool.eq_iff_iff
abbrev B8:=@Bool.or_eq_true
abbrev rP:=@Int.natCast_add
abbrev xG:=@List.append_nil
abbrev dI:=@List.length_map
abbrev xH:=@List.length_nil
abbrev ls:=@List.map_append
abbrev bK:=@List.mem_append
abbrev vq:=@Option.map_some
abbrev ao:=@decide_eq_false
abbrev dn:=@Bool.not_false
abbrev mZ:=@Comes.of_steps
abbrev B9:=@List.drop_drop
abbrev xI:=@List.mem_range
abbrev Ca:=@Nat.mul_le_mul
abbrev zu:=@decide_eq_true
abbrev bn:=@run_underlying
abbrev rQ:=@Bool.and_self
abbrev ck:=@Bool.not_true
abbrev dt:=@Bool.true_and
abbrev qb:=@List.map_cons
abbrev dQ:=@List.mem_cons
abbrev ba:=@Prod.mk.injEq
abbrev rR:=@List.map_map
abbrev fQ:=@List.mem_map
abbrev qc:=@Nat.add_comm
abbrev vt:=@Nat.add_zero
abbrev eX:=@Nat.le_trans
abbrev xJ:=@Nat.pow_succ
abbrev gF:=@Nat.succ_mul
abbrev gE:=@Nat.zero_add
abbrev cC:=@Sem.run_bind
abbrev mj:=@Sem.run_pure
abbrev ja:=@Nat.add_mul
abbrev bg:=@Nat.le_refl
abbrev aK:=@Nat.zero_le
abbrev ig:=@Array.ext'
abbrev bb:=@beq_iff_eq
abbrev aq:=@cond_false
abbrev zU:=@cond_true
abbrev bB:=@eq_of_beq

inductive ze where
 | mk (op:zw) (v:Int×Int×zw) (s:zw) (l:List ze)

def ze.op:ze→zw
 | .mk o _ _ _=>o
def ze.v:ze→Int×Int×zw
 | .mk _ v _ _=>v
def ze.s:ze→zw
 | .mk _ _ s _=>s
def ze.l:ze→List ze
 | .mk _ _ _ l=>l

inductive Sh where
 | unit
 | bool
 | int (k:IntKind)
 | str
 | sl (e:Sh)
 | pr (a b:Sh)
 | expr
 deriving DecidableEq

@[reducible] def Sem:Sh→Type
 | .unit=>Unit
 | .bool=>Bool
 | .int _=>Int
 | .str=>zw
 | .sl e=>List (Sem e)
 | .pr a b=>Sem a×Sem b
 | .expr=>ze

def zi:(s:Sh)→Sem s
 | .unit=>()
 | .bool=>false
 | .int _=>(0:Int)
 | .str=>([]:zw)
 | .sl e=>([]:List (Sem e))
 | .pr a b=>(zi a,zi b)
 | .expr=>ze.mk [] (0,0,[]) [] []

def Sh.size:Sh→Nat
 | .unit=>0
 | .pr a b=>a.size+b.size
 | .expr=>6
 | _=>1

inductive AV where
 | any
 | kb (b:Bool)
 | bool (b:Bool)
 | int (k:IntKind) (n:Int)
 | str (s:zw)
 | nils
 | sl (e:Sh) (l:List (Sem e))
 | vec (id:Nat)
 | ptr (id off:Nat)
 | vptr (id sz i off:Nat)
 | eptr (cells:List AV) (off:Nat)
 | nilp
 | agg (cells:List AV)
 | tup (vs:List AV)
 | clo (fn:Fn) (first caps:List AV)
 | nilf
 | mp (id:Nat)
 | ifc (aU:Bool)
 | tab (k:IntKind) (zs:List Int)
 | gint
 | vsuf (id sz i:Nat)

def zp:(s:Sh)→Sem s→List AV
 | .unit,_=>[]
 | .bool,b=>[.bool b]
 | .int k,n=>[.int k n]
 | .str,s=>[.str s]
 | .sl e,l=>[.sl e l]
 | .pr a b,x=>zp a x.1++zp b x.2
 | .expr,e=>[.str e.op,.int .i64 e.v.1,.int .i64 e.v.2.1,.str e.v.2.2,.str e.s,.sl .expr e.l]

inductive AO where
 | dead
 | box (cells:List AV)
 | vec (e:Sh) (l:List (Sem e))
 | frz (e:Sh) (l:List (Sem e))
 | fmap (es:List (zw×AV))
 | vmap (u:Bool) (es:List ((Int×Int×zw)×Int))

inductive Tr (α:Type) where
 | err
 | chk (c:Bool) (t:Tr α)
 | br (c:Bool) (t f:Tr α)
 | ok (a:α)

def Tr.val {α:Type}:Tr α→Option α
 | .err=>none
 | .chk c t=>if c then t.val else none
 | .br c t f=>if c then t.val else f.val
 | .ok a=>some a

def Tr.bind {α β:Type}:Tr α→(α→Tr β)→Tr β
 | .err,_=>.err
 | .chk c t,k=>.chk c (t.bind k)
 | .br c t f,k=>.br c (t.bind k) (f.bind k)
 | .ok a,k=>k a

structure fm where
 val:AV
 wr:List (Nat×AO):=[]
 nw:List AO:=[]

abbrev zT:=List AV→(Nat→AO)→Nat→Tr fm

structure bS where
 P:Program
 sh:TypeId→Option Sh
 gl:Nat→AV
 F:FuncId→Option zT
 own:Bool:=false

structure St where
 tmps:List AV
 heap:List AO

def St.hp (st:St) (id:Nat):AO:=st.heap.getD id .dead

def ua (hp:Nat→AO) (e:Sh):AV→Option (List (Sem e))
 | .nils=>some []
 | .sl e' l=>if h:e'=e then some (h▸l) else none
 | .vec id=>match hp id with
  | .vec e' l=>if h:e'=e then some (h▸l) else none
  | .frz e' l=>if h:e'=e then some (h▸l) else none
  | _=>none
 | _=>none

def sr (hp:Nat→AO):List AV→Option (ze×List AV)
 | .str op::.int .i64 k::.int .i64 i::.str vs::.str s::c::r=>match ua hp .expr c with
  | some l=>some (ze.mk op (k,i,vs) s l,r)
  | none=>none
 | _=>none

def cu (hp:Nat→AO):(s:Sh)→List AV→Option (Sem s×List AV)
 | .unit,cs=>some ((),cs)
 | .bool,.bool b::r=>some (b,r)
 | .bool,.kb b::r=>some (b,r)
 | .int k,.int k' n::r=>if k'=k then some (n,r) else none
 | .str,.str s::r=>some (s,r)
 | .sl e,c::r=>match ua hp e c with
  | some l=>some (l,r)
  | none=>none
 | .pr a b,cs=>match cu hp a cs with
  | some (x,r)=>match cu hp b r with
   | some (y,r')=>some ((x,y),r')
   | none=>none
  | none=>none
 | .expr,cs=>sr hp cs
 | _,_=>none

def cellsOf:AV→Option (List AV)
 | .any=>none
 | .tup _=>none
 | .vsuf _ _ _=>none
 | .agg cs=>some cs
 | v=>some [v]

def Sh.isAgg:Sh→Bool
 | .pr _ _ | .expr | .unit=>true
 | _=>false

def AV.isAgg:AV→Bool
 | .agg _=>true
 | _=>false

def vu (hp:Nat→AO) (s:Sh) (v:AV):Option (Sem s):=
 if s.isAgg==v.isAgg then match cellsOf v with
  | some cs=>match cu hp s cs with
   | some (x,[])=>some x
   | _=>none
  | none=>none
 else none

def zF (s:Sh) (x:Sem s):AV:=
 match s.isAgg with
 | true=>.agg (zp s x)
 | false=>(zp s x).headD .any

def IL (k:IntKind) (n:Int):Bool:=match k with
 | .i8=>decide (-128≤n)&&decide (n≤127)
 | .i16=>decide (-32768≤n)&&decide (n≤32767)
 | .i32=>decide (-2147483648≤n)&&decide (n≤2147483647)
 | .i64=>decide (-9223372036854775808≤n)&&decide (n≤9223372036854775807)
 | .u8=>decide (0≤n)&&decide (n≤255)
 | .u16=>decide (0≤n)&&decide (n≤65535)
 | .u32=>decide (0≤n)&&decide (n≤4294967295)
 | .u64=>decide (0≤n)&&decide (n≤18446744073709551615)

def FR:Value→AV
 | .bool b=>.kb b
 | .int k n=>if IL k n then .int k n else .any
 | .string s=>if s.data.toList.length≤1000000 then .str s.data.toList else .any
 | .slice none 0 0=>.nils
 | .pointer none=>.nilp
 | .nilFunc=>.nilf
 | .nilIface=>.ifc true
 | _=>.any

def zd6:Value→Bool
 | .agg _ | .tuple _=>false
 | _=>true

def DB:Value→AV
 | .agg cs=>if cs.toList.all zd6 then .agg (cs.toList.map FR) else .any
 | v=>FR v

def pf (c:Bool):AV→AV→Option AV
 | .bool a,.bool b=>some (.bool (bif c then a else b))
 | .bool a,.kb b=>some (.bool (bif c then a else b))
 | .kb a,.bool b=>some (.bool (bif c then a else b))
 | .kb a,.kb b=>some (.bool (bif c then a else b))
 | .int k a,.int k' b=>if k=k' then some (.int k (bif c then a else b)) else none
 | .str a,.str b=>some (.str (bif c then a else b))
 | _,_=>none

def eU (P:Program) (t:TypeId):Option Nat:=(P.info? t).map (·.size)
def ni (P:Program) (t:TypeId):Option AV:=match P.info? t with
 | some i=>i.zero.map DB
 | none=>none
def Be (P:Program) (t:TypeId):Option Bool:=match P.underlying t with
 | some (.struct _) | some (.array _ _)=>some true
 | some _=>some false
 | none=>none

def qu (P:Program) (t:TypeId) (cs:List AV) (off:Nat):Option AV:=
 match Be P t,eU P t with
 | some true,some n=>if off+n≤cs.length then some (.agg ((cs.drop off).take n)) else none
 | some false,_=>cs[off]?
 | _,_=>none

def setCells (cs:List AV) (off:Nat):List AV→List AV
 | []=>cs
 | v::r=>setCells (cs.set off v) (off+1) r

def ret (v:AV):Tr fm:=.ok { val:=v }
def BI:Option AV→Tr fm
 | some v=>ret v
 | none=>.err

def wz (P:Program) (t:TypeId) (f:Nat):Option Field:=match P.underlying t with
 | some (.struct fs)=>fs[f]?
 | _=>none

def zR (n:Int) (len:Nat):Bool:=decide (0≤n)&&decide (n < len)

def cD:AV→List Nat
 | .vec id=>[id]
 | _=>[]

def yD:AO→AO
 | .vec e l=>.frz e l
 | o=>o

def nq:AO→Bool
 | .vec _ _ | .frz _ _=>true
 | _=>false

def fK (hp:Nat→AO) (ids:List Nat):List (Nat×AO):=ids.map fun id=>(id,yD (hp id))

def Uq (P:Program) (t:TypeId) (x y:AV):Option Bool:=
 match P.underlying t,x,y with
 | some (.int _),.int k a,.int k' b=>if k=k' then some (a==b) else none
 | some .string,.str a,.str b=>some (a==b)
 | some .bool,.bool a,.bool b=>some (a==b)
 | some .bool,.bool a,.kb b=>some (a==b)
 | some .bool,.kb a,.bool b=>some (a==b)
 | some .bool,.kb a,.kb b=>some (a==b)
 | _,_,_=>none

def Bx (P:Program):List Field→Nat→List AV→List AV→Option Bool
 | [],_,[],[]=>some true
 | f::fs,i,a::xs,b::ys=>if f.name != "_" && f.offset==i then match Uq P f.type a b,Bx P fs (i+1) xs ys with
   | some r,some s=>some (r&&s)
   | _,_=>none
  else none
 | _,_,_,_=>none

def YA (P:Program) (t:TypeId) (x y:AV):Option Bool:=
 match x,y with
 | .agg a,.agg b=>match P.underlying t with
  | some (.struct fs)=>if !P.stoodInHeld t && !P.eqGuardType P.depth t then Bx P fs.toList 0 a b else none
  | _=>none
 | x,y=>Uq P t x y

def W4 (op:BinOp) (k:IntKind) (a b:Int):Tr fm:=
 match op with
 | .add=>ret (.int k (k.wrap (a+b)))
 | .sub=>ret (.int k (k.wrap (a - b)))
 | .mul=>ret (.int k (k.wrap (a * b)))
 | .quo=>.chk (b != 0) (ret (.int k (k.wrap (a.tdiv b))))
 | .rem=>.chk (b != 0) (ret (.int k (k.wrap (a.tmod b))))
 | .eql=>ret (.bool (a==b))
 | .neq=>ret (.bool (a != b))
 | .lss=>ret (.bool (decide (a < b)))
 | .leq=>ret (.bool (decide (a≤b)))
 | .gtr=>ret (.bool (decide (a > b)))
 | .geq=>ret (.bool (decide (a ≥ b)))
 | _=>.err

def W5 (op:BinOp) (a b:zw):Tr fm:=
 match op with
 | .add=>.chk (decide (a.length+b.length≤1099511627776)) (ret (.str (a++b)))
 | .eql=>ret (.bool (a==b))
 | .neq=>ret (.bool (!(a==b)))
 | .lss=>ret (.bool (Op.bytesLess a b))
 | .leq=>ret (.bool (Op.bytesLess a b||a==b))
 | .gtr=>ret (.bool (!(Op.bytesLess a b||a==b)))
 | .geq=>ret (.bool (!Op.bytesLess a b))
 | _=>.err

def W3 (P:Program) (op:BinOp) (t:TypeId) (x y:AV):Tr fm:=
 match op with
 | .eql=>match YA P t x y with
  | some r=>ret (.bool r)
  | none=>.err
 | .neq=>match YA P t x y with
  | some r=>ret (.bool (!r))
  | none=>.err
 | _=>.err

def W2 (P:Program) (op:BinOp) (t:TypeId) (x y:AV):Tr fm:=
 match x,y with
 | .int k a,.int k' b=>if k=k' then W4 op k a b else .err
 | .str a,.str b=>W5 op a b
 | x,y=>W3 P op t x y

def CJ (place:Nat→Option (Nat×Nat)) (cells:List AV):List (Nat×AV)→Option (List AV)
 | []=>some cells
 | (i,v)::rest=>match place i,cellsOf v with
  | some (off,size),some cs=>if cs.length=size∧off+cs.length≤cells.length then CJ place (setCells cells off cs) rest else none
  | _,_=>none

def sJ (P:Program):List Field→Option (List (Nat×Nat))
 | []=>some []
 | f::r=>match eU P f.type,sJ P r with
  | some n,some l=>some ((f.offset,n)::l)
  | _,_=>none

def If (P:Program) (t:TypeId) (parts:List (Nat×AV)):Option AV:=
 match ni P t,P.underlying t with
 | some (.agg zero),some (.struct fs)=>
  match sJ P fs.toList with
  | some ps=>(CJ (fun i=>ps[i]?) zero parts).map .agg
  | none=>none
 | some (.agg zero),some (.array _ elem)=>match eU P elem with
  | some n=>(CJ (fun i=>some (i * n,n)) zero parts).map .agg
  | none=>none
 | _,_=>none

def uh (hp:Nat→AO) (e:Sh):List AV→Option (List (Sem e))
 | []=>some []
 | v::r=>match vu hp e v,uh hp e r with
  | some x,some l=>some (x::l)
  | _,_=>none

def sx:Nat→List (Nat×AV)→Bool
 | _,[]=>true
 | n,(i,_)::r=>i==n&&sx (n+1) r

def D6 (P:Program) (hp:Nat→AO) (t:TypeId):AV→Tr fm
 | .ptr id off=>match hp id with
  | .box cs=>BI (qu P t cs off)
  | _=>.err
 | .eptr cs off=>BI (qu P t cs off)
 | .vptr id sz i off=>match hp id with
  | .vec e l=>if e.size=sz then .chk (decide (i < l.length)) (BI (qu P t (zp e (l.getD i (zi e))) off)) else .err
  | _=>.err
 | _=>.err

def D7 (P:Program) (hp:Nat→AO) (t:TypeId) (a x:AV):Tr fm:=
 match cellsOf x,eU P t with
 | some vs,some sz=>if vs.length=sz then match a with
   | .ptr id off=>match hp id with
    | .box cs=>if off+sz≤cs.length then .ok { val:=.tup [],wr:=[(id,.box (setCells cs off vs))] } else .err
    | _=>.err
   | .vptr id sz' i off=>match hp id with
    | .vec e l=>if e.size=sz'∧off+sz≤sz'∧(vs.flatMap cD).all (fun j=>nq (hp j)&&j != id) then match cu hp e (setCells (zp e (l.getD i (zi e))) off vs) with
      | some (x,[])=>.chk (decide (i < l.length)) (.ok { val:=.tup [],wr:=(id,.vec e (l.set i x))::fK hp (vs.flatMap cD) })
      | _=>.err
     else .err
    | _=>.err
   | _=>.err
  else .err
 | _,_=>.err

def D4 (P:Program) (t:TypeId) (f:Nat) (x:AV):Tr fm:=
 match wz P t f with
 | some fd=>match eU P fd.type with
  | some (_+1)=>match x with
   | .ptr id off=>ret (.ptr id (off+fd.offset))
   | .eptr cs off=>ret (.eptr cs (off+fd.offset))
   | .vptr id sz i off=>ret (.vptr id sz i (off+fd.offset))
   | _=>.err
  | _=>.err
 | none=>.err

def LG (k:Int) (f:Nat→AV):Nat→Nat→Tr fm
 | _,0=>.err
 | i,1=>ret (f i)
 | i,n+2=>.br (k==(i:Int)) (ret (f i)) (LG k f (i+1) (n+1))

def nJ (P:Program) (hp:Nat→AO) (t:TypeId) (x i:AV):Tr fm:=
 match i with
 | .int _ k=>match P.underlying t with
  | some (.slice elem)=>match x with
   | .sl e l=>if eU P elem=some e.size then .chk (zR k l.length) (ret (.eptr (zp e (l.getD k.toNat (zi e))) 0)) else .err
   | .vec id=>match hp id with
    | .vec e l=>if eU P elem=some e.size then .chk (zR k l.length) (ret (.vptr id e.size k.toNat 0)) else .err
    | .frz e l=>if eU P elem=some e.size then .chk (zR k l.length) (ret (.eptr (zp e (l.getD k.toNat (zi e))) 0)) else .err
    | _=>.err
   | _=>.err
  | some (.array len elem)=>match eU P elem with
   | some sz=>match x with
    | .ptr id off=>.chk (zR k len) (ret (.ptr id (off+k.toNat * sz)))
    | .eptr cs off=>.chk (zR k len) (LG k (fun i=>.eptr cs (off+i * sz)) 0 len)
    | _=>.err
   | none=>.err
  | _=>.err
 | _=>.err

def D5 (P:Program) (t:TypeId) (x i:AV):Tr fm:=
 match i with
 | .int _ k=>match P.underlying t,x with
  | some .string,.str s=>.chk (zR k s.length) (ret (.int .u8 (s.getD k.toNat 0).toNat))
  | some (.array len elem),.agg cs=>match eU P elem with
   | some sz=>match qu P elem cs (k.toNat * sz) with
    | some v=>.chk (zR k len) (ret v)
    | none=>.err
   | none=>.err
  | _,_=>.err
 | _=>.err

def di (v:AV):List Nat:=match cellsOf v with
 | some cs=>cs.flatMap cD
 | none=>[]

def mu (E:bS) (hp:Nat→AO) (t:TypeId) (len:Nat) (ps:List (Nat×AV)):Tr fm:=
 match E.P.underlying t with
 | some (.slice elem)=>match len with
  | 0=>if ps.isEmpty&&(eU E.P elem).isSome then ret .nils else .err
  | _=>match E.sh elem with
   | some e=>
    if ps.length=len&&sx 0 ps&&decide (len * e.size≤100000)&&(ps.flatMap fun p=>di p.2).all (fun j=>nq (hp j)) then match uh hp e (ps.map (·.2)) with
     | some l=>.ok { val:=.sl e l,wr:=fK hp (ps.flatMap fun p=>di p.2) }
     | none=>.err
    else .err
   | none=>.err
 | _=>.err

def qZ (E:bS) (hp:Nat→AO) (n:Nat) (t:TypeId) (len:Nat) (ps:List (Nat×AV)):Tr fm:=
 match E.P.underlying t with
 | some (.slice elem)=>match E.sh elem with
  | some e=>
   if ps.length=len&&sx 0 ps&&decide (0 < len)&&decide (len * e.size≤100000)&&(ps.flatMap fun p=>di p.2).isEmpty then match uh hp e (ps.map (·.2)) with
    | some l=>.ok { val:=.vec n,nw:=[.vec e l] }
    | none=>.err
   else .err
  | none=>.err
 | _=>.err

def mn:AV→Option Int
 | .int _ k=>some k
 | _=>none

def sg (P:Program) (t:TypeId) (x:AV) (lo hi mx:Option AV):Tr fm:=
 match P.underlying t,x,mx with
 | some .string,.str s,none=>
  match (match lo with | none=>some 0 | some a=>mn a),(match hi with | none=>some (s.length:Int) | some a=>mn a) with
  | some l,some h=>.chk (decide (0≤l)&&decide (l≤h)&&decide (h≤s.length)) (ret (.str ((s.drop l.toNat).take (h.toNat - l.toNat))))
  | _,_=>.err
 | some (.slice elem),.sl e s,none=>if eU P elem=some e.size then
   match (match lo with | none=>some 0 | some a=>mn a),(match hi with | none=>some (s.length:Int) | some a=>mn a) with
   | some l,some h=>.chk (decide (0≤l)&&decide (l≤h)&&decide (h≤s.length)) (ret (.sl e ((s.drop l.toNat).take (h.toNat - l.toNat))))
   | _,_=>.err
  else .err
 | some (.slice elem),.sl _ _,some (.int _ 0)=>match lo,hi with
  | none,some (.int _ 0)=>if (eU P elem).isSome then ret .nils else .err
  | _,_=>.err
 | some (.slice elem),.nils,some (.int _ 0)=>match lo,hi with
  | none,some (.int _ 0)=>if (eU P elem).isSome then ret .nils else .err
  | _,_=>.err
 | _,_,_=>.err

def yp (P:Program) (hp:Nat→AO) (t:TypeId) (x:AV) (lo hi mx:Option AV):Tr fm:=
 match x with
 | .vec id=>match hp id with
  | .vec e l=>match lo,hi,mx with
   | some a,none,none=>match mn a,P.underlying t with
    | some k,some (.slice elem)=>if eU P elem=some e.size then .chk (decide (0≤k)&&decide (k≤l.length)) (ret (.vsuf id e.size k.toNat)) else .err
    | _,_=>.err
   | _,_,_=>(sg P t (.sl e l) lo hi mx).bind fun f=>.ok { val:=f.val,wr:=fK hp [id] }
  | .frz e l=>sg P t (.sl e l) lo hi mx
  | _=>.err
 | x=>sg P t x lo hi mx

def FA (P:Program) (e:Sh) (elem:TypeId):Option (Sem e):=match ni P elem with
 | some z=>match cellsOf z with
  | some cs=>match cu (fun _=>.dead) e cs with
   | some (x,[])=>some x
   | _=>none
  | none=>none
 | none=>none

def D2 (P:Program) (hp:Nat→AO) (t:TypeId):AV→Tr fm
 | .vsuf id sz i=>match hp id,P.underlying t with
  | .vec e l,some (.slice elem)=>if e.size=sz then match FA P e elem with
    | some x=>.chk (decide (i≤l.length)) (.ok { val:=.tup [],wr:=[(id,.vec e (l.take i++List.replicate (l.length - i) x))] })
    | none=>.err
   else .err
  | _,_=>.err
 | _=>.err

def Ob (P:Program) (hp:Nat→AO) (t:TypeId) (x:AV):Tr fm:=
 match P.underlying t with
 | some .string=>match x with
  | .str s=>ret (.int .i64 s.length)
  | _=>.err
 | some (.slice _)=>match x with
  | .nils=>ret (.int .i64 0)
  | .sl _ l=>ret (.int .i64 l.length)
  | .vec id=>match hp id with
   | .vec _ l=>ret (.int .i64 l.length)
   | .frz _ l=>ret (.int .i64 l.length)
   | _=>.err
  | _=>.err
 | some (.map _ _)=>match x with
  | .mp id=>match hp id with
   | .vmap _ es=>.chk (decide (es.length≤1073741824)) (ret (.int .i64 es.length))
   | _=>.err
  | _=>.err
 | _=>.err

def sb (E:bS) (hp:Nat→AO) (n:Nat) (elem:TypeId) (b x:AV):Tr fm:=
 match E.sh elem,b with
 | some e,.nils=>match ua hp e x with
  | some l=>.chk (decide (l.length≤1073741824)) (.ok { val:=.vec n,nw:=[.vec e l] })
  | none=>.err
 | some e,.vec id=>match hp id with
  | .vec e' l0=>if h:e'=e then match ua hp e x with
    | some l'=>.chk (decide (l0.length+l'.length≤1073741824)) (.ok { val:=.vec n,wr:=[(id,.dead)],nw:=[.vec e ((h▸l0:List (Sem e))++l')] })
    | none=>.err
   else .err
  | _=>.err
 | _,_=>.err

def Kv (es:List (zw×AV)) (s:zw) (z:Tr fm):Tr fm:=match es with
 | []=>z
 | (k,v)::r=>.br (s==k) (ret v) (Kv r s z)

def Ej (es:List (zw×AV)) (s:zw) (z:Tr fm):Tr fm:=match es with
 | []=>z
 | (k,v)::r=>.br (s==k) (ret (.tup [v,.kb true])) (Ej r s z)

def MM:AV→Option (Int×Int×zw)
 | .agg [.int .i64 a,.int .i64 b,.str s]=>some (a,b,s)
 | _=>none

def Yt:Bool→AV→Option Int
 | false,.int .i64 n=>some n
 | true,.agg []=>some 0
 | _,_=>none

def ma (es:List ((Int×Int×zw)×Int)) (k:Int×Int×zw):Bool:=es.any fun p=>k==p.1
def fM (es:List ((Int×Int×zw)×Int)) (k:Int×Int×zw):Int:=((es.find? fun p=>k==p.1).map (·.2)).getD 0
def mb (es:List ((Int×Int×zw)×Int)) (k:Int×Int×zw) (x:Int):List ((Int×Int×zw)×Int):=match es with
 | []=>[(k,x)]
 | p::r=>bif k==p.1 then (k,x)::r else p::mb r k x

def iY (es:List ((Int×Int×zw)×Int)) (k:Int×Int×zw):List ((Int×Int×zw)×Int):=bif ma es k then es else es++[(k,0)]
def ko (es:List ((Int×Int×zw)×Int)) (k:Int×Int×zw):Nat:=match es with
 | []=>0
 | p::r=>bif k==p.1 then 0 else ko r k+1
def jg (es:List ((Int×Int×zw)×Int)) (n:Nat) (x:Int):List ((Int×Int×zw)×Int):=match es,n with
 | [],_=>[]
 | p::r,0=>(p.1,x)::r
 | p::r,n+1=>p::jg r n x

def Ed (P:Program) (t:TypeId):Bool:=match P.underlying t with
 | some (.int _)=>true
 | _=>false
def IP (P:Program) (t:TypeId):Bool:=match P.underlying t with
 | some .string=>true
 | _=>false

def nj (P:Program) (kt:TypeId):Bool:=match P.underlying kt with
 | some (.struct fs) => !P.stoodInHeld kt && !P.eqGuardType P.depth kt&&(match fs.toList with
  | [f1,f2,f3]=>f1.name != "_" && f1.offset==0&&Ed P f1.type&&(f2.name != "_" && f2.offset==1&&Ed P f2.type)&&(f3.name != "_" && f3.offset==2&&IP P f3.type)
  | _=>false)
 | _=>false

def Pe (P:Program) (t:TypeId):Option AO:=match P.underlying t with
 | some (.map kt et)=>match P.underlying kt with
  | some .string=>some (.fmap [])
  | _=>if nj P kt then match P.underlying et with
    | some (.int .i64)=>some (.vmap false [])
    | some (.struct fs)=>if fs.size=0 then some (.vmap true []) else none
    | _=>none
   else none
 | _=>none

def sf (P:Program) (hp:Nat→AO) (t:TypeId) (m k x:AV):Tr fm:=
 match P.underlying t with
 | some (.map kt _)=>match P.underlying kt with
  | some .string=>match m,k with
   | .mp id,.str s=>match hp id with
    | .fmap es=>.chk (!(es.any fun p=>p.1==s)) (.ok { val:=.tup [],wr:=[(id,.fmap (es++[(s,x)]))] })
    | _=>.err
   | _,_=>.err
  | some (.struct _)=>if nj P kt then match m,MM k with
    | .mp id,some v=>match hp id with
     | .vmap u es=>match Yt u x with
      | some n=>.ok { val:=.tup [],wr:=[(id,.vmap u (mb es v n))] }
      | none=>.err
     | _=>.err
    | _,_=>.err
   else .err
  | _=>.err
 | _=>.err

def se (P:Program) (hp:Nat→AO) (t:TypeId) (m k:AV):Tr fm:=
 match P.underlying t with
 | some (.map kt et)=>if nj P kt then match m,MM k with
   | .mp id,some v=>match hp id with
    | .vmap false es=>match ni P et with
     | some (.int .i64 z)=>if z=0 then .chk (decide (es.length≤1073741824)) (.ok { val:=.tup [.int .i64 (fM es v),.int .i64 (ko es v)],wr:=[(id,.vmap false (iY es v))] }) else .err
     | _=>.err
    | _=>.err
   | _,_=>.err
  else .err
 | _=>.err

def mv (hp:Nat→AO) (m s x:AV):Tr fm:=
 match m,s,x with
 | .mp id,.int .i64 n,.int .i64 y=>match hp id with
  | .vmap false es=>.chk (zR n es.length) (.ok { val:=.tup [],wr:=[(id,.vmap false (jg es n.toNat y))] })
  | _=>.err
 | _,_,_=>.err

def Vh (P:Program) (et:TypeId):Tr fm:=match ni P et with
 | some z=>ret (.tup [z,.kb false])
 | none=>.err

def jW (P:Program) (hp:Nat→AO) (t:TypeId) (x i:AV) (two:Bool):Tr fm:=
 match P.underlying t with
 | some (.map kt et)=>match P.underlying kt with
  | some .string=>match x,i with
   | .mp id,.str s=>match hp id with
    | .fmap es=>if two then Ej es s (Vh P et) else Kv es s (BI (ni P et))
    | _=>.err
   | _,_=>.err
  | some (.struct _)=>if nj P kt then match x,MM i with
    | .mp id,some v=>match hp id with
     | .vmap u es=>match ni P et with
      | some (.int .i64 z)=>if u=false∧z=0 then ret (if two then .tup [.int .i64 (fM es v),.bool (ma es v)] else .int .i64 (fM es v)) else .err
      | some (.agg cs)=>if u=true∧cs.isEmpty=true then ret (if two then .tup [.agg [],.bool (ma es v)] else .agg []) else .err
      | _=>.err
     | _=>.err
    | _,_=>.err
   else .err
  | _=>.err
 | _=>.err

def Oa (E:bS) (ev:Operand→AV) (hp:Nat→AO) (n:Nat) (c:Call):Tr fm:=
 match c.callee with
 | .value f=>match ev f with
  | .clo (.func k) first caps=>match E.F k with
   | some F=>F (first++c.args.toList.map ev++caps) hp n
   | none=>.err
  | _=>.err
 | .builtin .len=>match c.args.toList.map ev,c.argTypes.toList with
  | [x],[t]=>Ob E.P hp t x
  | _,_=>.err
 | .builtin .append=>match c.args.toList.map ev,c.argTypes.toList with
  | [b,x],[t,t']=>match E.P.underlying t,E.P.underlying t' with
   | some (.slice elem),some (.slice _)=>sb E hp n elem b x
   | _,_=>.err
  | _,_=>.err
 | .builtin .clear=>match c.args.toList.map ev,c.argTypes.toList with
  | [x],[t]=>D2 E.P hp t x
  | _,_=>.err
 | _=>.err

def ii (l:List Int):zw:=l.map fun n=>UInt8.ofNat n.toNat
def D1 (P:Program) (el:TypeId):AV→Tr fm
 | .sl (.int .u8) l=>match P.underlying el with
  | some (.int .u8)=>ret (.str (ii l))
  | _=>.err
 | _=>.err

def nK (E:bS) (ev:Operand→AV) (hp:Nat→AO) (n:Nat) (o:Oper):Tr fm:=
 match o.op with
 | .move x | .assign x=>ret (ev x)
 | .pick c a b=>match ev c with
  | .kb true=>ret (ev a)
  | .kb false=>ret (ev b)
  | .bool x=>BI (pf x (ev a) (ev b))
  | _=>.err
 | .box _ x=>match cellsOf (ev x) with
  | some cs=>.ok { val:=.ptr n 0,nw:=[.box cs] }
  | none=>.err
 | .alloc t=>match ni E.P t with
  | some z=>match cellsOf z with
   | some cs=>.ok { val:=.ptr n 0,nw:=[.box cs] }
   | none=>.err
  | none=>.err
 | .load t a=>D6 E.P hp t (ev a)
 | .store t a x=>D7 E.P hp t (ev a) (ev x)
 | .fieldAddr t x f=>D4 E.P t f (ev x)
 | .field t x f=>match wz E.P t f,ev x with
  | some fd,.agg cs=>BI (qu E.P fd.type cs fd.offset)
  | _,_=>.err
 | .indexAddr t x i=>nJ E.P hp t (ev x) (ev i)
 | .index t x i=>D5 E.P t (ev x) (ev i)
 | .build t parts=>BI (If E.P t (parts.toList.map fun p=>(p.1,ev p.2)))
 | .buildSlice t len parts=>match E.own with
  | true=>qZ E hp n t len (parts.toList.map fun p=>(p.1,ev p.2))
  | false=>mu E hp t len (parts.toList.map fun p=>(p.1,ev p.2))
 | .binOp op t x y _=>W2 E.P op t (ev x) (ev y)
 | .unOp .not _ x=>match ev x with
  | .bool b=>ret (.bool (!b))
  | .kb b=>ret (.kb (!b))
  | _=>.err
 | .unOp .neg _ x=>match ev x with
  | .int k a=>ret (.int k (k.wrap (0 - a)))
  | _=>.err
 | .convert src dst x=>match E.P.underlying src,E.P.underlying dst,ev x with
  | some _,some (.int k),.int _ a=>ret (.int k (k.wrap a))
  | some _,some .string,.str s=>ret (.str s)
  | some (.slice el),some .string,.sl e l=>D1 E.P el (.sl e l)
  | _,_,_=>.err
 | .slice t x lo hi mx=>yp E.P hp t (ev x) (lo.map ev) (hi.map ev) (mx.map ev)
 | .extract x i=>match ev x with
  | .tup vs=>BI vs[i]?
  | _=>.err
 | .makeFunc fn first caps=>ret (.clo fn (first.toList.map ev) (caps.toList.map ev))
 | .nilCheck x=>match ev x with
  | .ptr a b=>ret (.ptr a b)
  | .eptr a b=>ret (.eptr a b)
  | .vptr a b c d=>ret (.vptr a b c d)
  | .clo (.func f) a b=>ret (.clo (.func f) a b)
  | _=>.err
 | .call c=>Oa E ev hp n c
 | .makeMap t none=>match Pe E.P t with
  | some o=>.ok { val:=.mp n,nw:=[o] }
  | none=>.err
 | .insert t m k x=>sf E.P hp t (ev m) (ev k) (ev x)
 | .mapUpdate t m k x=>sf E.P hp t (ev m) (ev k) (ev x)
 | .lookup t x i two=>jW E.P hp t (ev x) (ev i) two
 | .mapEntry t m k=>se E.P hp t (ev m) (ev k)
 | .entryStore _ m s x=>mv hp (ev m) (ev s) (ev x)
 | _=>.err

mutual
def AV.ids:AV→List Nat
 | .vec id | .ptr id _ | .vptr id _ _ _ | .mp id | .vsuf id _ _=>[id]
 | .eptr cs _ | .agg cs | .tup cs=>AV.idsL cs
 | .clo _ a b=>AV.idsL a++AV.idsL b
 | _=>[]
def AV.idsL:List AV→List Nat
 | []=>[]
 | v::r=>v.ids++AV.idsL r
end

mutual
def AV.ren (f:Nat→Nat):AV→AV
 | .vec id=>.vec (f id)
 | .ptr id o=>.ptr (f id) o
 | .vptr id sz i o=>.vptr (f id) sz i o
 | .mp id=>.mp (f id)
 | .vsuf id sz i=>.vsuf (f id) sz i
 | .eptr cs o=>.eptr (AV.renL f cs) o
 | .agg cs=>.agg (AV.renL f cs)
 | .tup cs=>.tup (AV.renL f cs)
 | .clo g a b=>.clo g (AV.renL f a) (AV.renL f b)
 | v=>v
def AV.renL (f:Nat→Nat):List AV→List AV
 | []=>[]
 | v::r=>v.ren f::AV.renL f r
end

def AO.ids:AO→List Nat
 | .box cs=>AV.idsL cs
 | .fmap es=>AV.idsL (es.map (·.2))
 | _=>[]
def AO.ren (f:Nat→Nat):AO→AO
 | .box cs=>.box (AV.renL f cs)
 | .fmap es=>.fmap (es.map fun p=>(p.1,p.2.ren f))
 | o=>o

def jn (hp:Nat→AO):Nat→List Nat→List Nat→List Nat
 | 0,_,seen=>seen
 | _+1,[],seen=>seen
 | n+1,i::r,seen=>if seen.contains i then jn hp n r seen else jn hp n (r++(hp i).ids) (seen++[i])

def gN:Op→Bool
 | .load .. | .store .. | .indexAddr .. | .buildSlice .. | .slice .. | .call _ | .insert .. | .mapUpdate .. | .lookup .. | .mapEntry .. | .entryStore .. => true
 | _=>false

def qS:Op→Bool
 | .call _=>true
 | _=>false

def sm (hp:Nat→AO) (ev:Operand→AV) (o:Oper):List Nat:=
 if qS o.op then jn hp 400 (AV.idsL (o.op.operands.toList.map ev)) [] else if gN o.op then AV.idsL (o.op.operands.toList.map ev) else []

def GL (hp:Nat→AO) (ev:Operand→AV) (o:Oper):Bool:=
 !gN o.op||(AV.idsL (o.op.operands.toList.map ev)).all (fun i=>(sm hp ev o).contains i)&&(!qS o.op||(sm hp ev o).all (fun i=>(hp i).ids.all fun j=>(sm hp ev o).contains j))

structure BX where
 fp:List Nat:=[]
 wr:List Nat:=[]
 base:Nat:=0
 nw:Nat:=0

structure RS where
 tmps:List AV
 heap:List AO
 known:List (Nat×Bool):=[]
 touched:Bool:=false
 log:List BX:=[]

def RS.hp (st:RS) (id:Nat):AO:=st.heap.getD id .dead

def tV (E:bS) (tmps:List AV) (known:List (Nat×Bool)):Operand→AV
 | .tmp t=>match known.lookup t with
  | some b=>.kb b
  | none=>tmps.getD t .any
 | .const v=>DB v
 | .global g=>E.gl g
 | .func f=>.clo (.func f) [] []

def mc (h:List AO):List (Nat×AO)→List AO
 | []=>h
 | (i,o)::r=>mc (h.set i o) r

def og (tmps:List AV) (dst:Option Tmp) (v:AV):List AV:=match dst with
 | some d=>tmps.set d v
 | none=>tmps

def rg (known:List (Nat×Bool)) (dst:Option Tmp):List (Nat×Bool):=match dst with
 | some d=>known.filter fun p=>p.1 != d
 | none=>known

def BD (E:bS) (o:Oper) (st:RS):Tr RS:=
  if GL st.hp (tV E st.tmps st.known) o then
  (nK E (tV E st.tmps st.known) st.hp st.heap.length o).bind fun f=>
    if f.wr.all (fun p=>p.1 < st.heap.length&&(sm st.hp (tV E st.tmps st.known) o).contains p.1) then
    .ok { tmps:=og st.tmps o.dst f.val,heap:=mc st.heap f.wr++f.nw,known:=rg st.known o.dst,
          touched:=st.touched || !(f.wr.isEmpty&&f.nw.isEmpty),
          log:=st.log++[{ fp:=sm st.hp (tV E st.tmps st.known) o,wr:=f.wr.map (·.1),base:=st.heap.length,nw:=f.nw.length }] }
    else .err
  else .err

def lc (o:Oper) (st:RS):RS:=
 { st with tmps:=og st.tmps o.dst (.tup []),known:=rg st.known o.dst,log:=st.log++[{}] }

def rH (E:bS) (ops:List Oper) (st:RS) (o:Oper):Tr RS:=
 match o.guard with
 | none=>BD E o st
 | some (j,want)=>match (ops[j]?).bind (·.dst) with
  | none=>.ok (lc o st)
  | some d=>match tV E st.tmps st.known (.tmp d) with
   | .kb b=>if b==want then BD E o st else .ok (lc o st)
   | .tup _=>.ok (lc o st)
   | .bool b=>
    let yes:RS:={ st with known:=(d,true)::st.known }
    let no:RS:={ st with known:=(d,false)::st.known }
    .br b (if want then BD E o yes else .ok (lc o yes)) (if want then .ok (lc o no) else BD E o no)
   | _=>.err

def cq (E:bS) (ops:List Oper):List Oper→RS→Tr RS
 | [],st=>.ok st
 | o::r,st=>(rH E ops st o).bind (cq E ops r)

def LN (ops:List Oper):List Nat:=ops.filterMap (·.dst)

def cO (c:Bool):List Nat→List AV→List AV→List AV→List AV
 | [],pre,_,_=>pre
 | d::r,pre,t,f=>cO c r (pre.set d ((pf c (t.getD d .any) (f.getD d .any)).getD .any)) t f

def RZ:AV→AV→Bool
 | .clo (.func a) _ _,.clo (.func b) _ _=>a != b
 | .clo _ _ _,.nilf=>true
 | .nilf,.clo _ _ _=>true
 | _,_=>false

def rY (ds:List Nat) (l l':List AV):Bool:=ds.any fun d=>RZ (l.getD d .any) (l'.getD d .any)

def wl (ds:List Nat) (pre:List AV):Tr RS→Option (Option Bool×List AV)
 | .err=>none
 | .ok st=>if st.touched then none else some (none,st.tmps)
 | .chk c t=>match wl ds pre t with
  | some (none,l)=>some (some c,l)
  | some (some c',l)=>some (some (c&&c'),l)
  | none=>none
 | .br c t f=>match wl ds pre t,wl ds pre f with
  | some (none,l),some (none,l')=>if rY ds l l' then none else some (none,cO c ds pre l l')
  | some (some a,l),some (none,l')=>if rY ds l l' then none else some (some (bif c then a else true),cO c ds pre l l')
  | some (none,l),some (some b,l')=>if rY ds l l' then none else some (some (bif c then true else b),cO c ds pre l l')
  | some (some a,l),some (some b,l')=>if rY ds l l' then none else some (some (bif c then a else b),cO c ds pre l l')
  | _,_=>none

def zch {α:Type}:Tr α→Bool
 | .br .. => true
 | .chk _ t=>zch t
 | _=>false

def RI:List Oper→List (List Nat)→List (List Nat)
 | [],acc=>acc
 | o::r,acc=>RI r (acc++[o.after.toList.flatMap fun e=>if Region.binds .any e then e.on::acc.getD e.on [] else []])

def eo (ops:List Oper) (o:Oper):List Nat:=
  (o.op.operands.toList.filterMap fun | .tmp t=>some t | _=>none)++
  (match o.guard with
   | some (j,_)=>((ops[j]?).bind (·.dst)).toList
   | none=>[])

def gM (a b:List Nat):Bool:=a.any fun x=>b.contains x

def ff (r:BX) (x:Nat):Bool:=decide (r.base≤x)&&decide (x < r.base+r.nw)

def rX (ops:List Oper) (oi oj:Oper) (ri rj:BX):Bool:=
 gM oi.dst.toList (eo ops oj)||gM oi.dst.toList oj.dst.toList||gM (eo ops oi) oj.dst.toList||
 gM ri.wr rj.fp||gM ri.fp rj.wr||rj.fp.any (ff ri)||ri.fp.any (ff rj)

def cj (r:BX) (id:Nat):Bool:=r.wr.contains id||ff r id

def Qp (ops:List Oper) (log:List BX) (an:List (List Nat)) (i j:Nat) (oi oj:Oper) (ri rj:BX):Bool:=
 match oi.op,oj.op,ri.fp,rj.wr with
 | .lookup _ _ _ false,.mapEntry _ _ _,[a],[b]=>b==a&&ri.wr.isEmpty&&ri.nw==0&&rj.nw==0&&
  !(gM oi.dst.toList (eo ops oj)||gM oi.dst.toList oj.dst.toList||gM (eo ops oi) oj.dst.toList)&&
  (List.range ops.length).all fun l=>match log[l]? with
   | some rl => !cj rl a||decide (l < i)||l==j||(decide (j < l)&&(an.getD l []).contains i)
   | none=>false
 | _,_,_,_=>false

def sI (ops:List Oper) (log:List BX):Bool:=
 let an:=RI ops []
 (ops.zipIdx.all fun p=>p.1.after.toList.all fun e => !Region.binds .any e||decide (e.on < p.2))&&
 (List.range ops.length).all fun j=>(List.range j).all fun i=>
  match ops[i]?,ops[j]?,log[i]?,log[j]? with
  | some oi,some oj,some ri,some rj => !rX ops oi oj ri rj||(an.getD j []).contains i||Qp ops log an i j oi oj ri rj
  | _,_,_,_=>false

def checked (ops:List Oper):Tr RS→Tr RS
 | .err=>.err
 | .chk c t=>.chk c (checked ops t)
 | .br c t f=>.br c (checked ops t) (checked ops f)
 | .ok st=>if sI ops st.log then .ok st else .err

def RS.out (st:RS):St:={ tmps:=st.tmps,heap:=st.heap }

def rb (E:bS) (ops:List Oper) (draw:Bool) (st:St):Tr St:=
 let t0:=cq E ops ops { tmps:=st.tmps,heap:=st.heap }
 let t:=if draw then checked ops t0 else t0
 if zch t then match wl (LN ops) st.tmps t with
  | some (none,l)=>.ok { st with tmps:=l }
  | some (some c,l)=>.chk c (.ok { st with tmps:=l })
  | none=>t.bind fun s=>.ok s.out
 else t.bind fun s=>.ok s.out

inductive zx where
 | head (key:Nat) (k:List Item) (st:St)
 | ret (v:AV) (heap:List AO)
 | fork (c:Bool) (k1 k2:List Item) (st:St)

def En:Code→Code→Option (Nat×Nat×Nat×TypeId×Code×Code)
 | .region _ ops false,.cond (.tmp d') a b=>match ops.toList with
  | [o1,o2]=>match o1.dst,o1.op,o1.guard,o2.dst,o2.op,o2.guard with
   | some x,.move (.tmp s),none,some d,.binOp .eql t (.tmp x') (.const (.slice none 0 0)) _,none=>if x'=x∧d'=d∧x≠d then some (s,x,d,t,a,b) else none
   | _,_,_,_,_,_=>none
  | _=>none
 | _,_=>none

def DS (hp:Nat→AO):AV→Option Bool
 | .nils=>some true
 | .sl _ l=>some l.isEmpty
 | .vec id=>match hp id with
  | .vec _ l=>some l.isEmpty
  | .frz _ l=>some l.isEmpty
  | _=>none
 | _=>none

def IN (P:Program) (t:TypeId):Bool:=match P.underlying t with
 | some (.slice _)=>true
 | _=>false

def BH (keep:List Nat):Nat→List AV→List AV
 | _,[]=>[]
 | i,v::r=>(if keep.contains i then v else .any)::BH keep (i+1) r

def sK (st:St):Nat×Option Nat×Sh→St
 | (s,none,e)=>match st.tmps.getD s .any with
  | .nils=>{ tmps:=st.tmps.set s (.vec st.heap.length),heap:=st.heap++[.vec e []] }
  | _=>st
 | (s,some c,e)=>match st.tmps.getD s .any with
  | .ptr id 0=>match st.hp id with
   | .box cs=>match cs.getD c .any with
    | .nils=>{ tmps:=st.tmps,heap:=st.heap.set id (.box (cs.set c (.vec st.heap.length)))++[.vec e []] }
    | _=>st
   | _=>st
  | _=>st

def Do (st:St):Nat×Nat→St
 | (s,c)=>match st.tmps.getD s .any with
  | .ptr id 0=>match st.hp id with
   | .box cs=>match cs.getD c .any with
    | .vec k=>match yD (st.hp k) with
     | .frz e l=>{ tmps:=st.tmps,heap:=(st.heap.set k (.frz e l)).set id (.box (cs.set c (.sl e l))) }
     | _=>st
    | _=>st
   | _=>st
  | _=>st

structure aJ where
 slots:List Nat:=[]
 prom:List (Nat×Option Nat×Sh):=[]
 unroll:Bool:=false
 sett:List (Nat×Nat):=[]
 cut:Bool:=false

def Kx:List Nat→Bool
 | []=>true
 | i::r => !r.contains i&&Kx r

def jx (hp:Nat→AO) (n0:Nat) (from_ ids:List Nat):Bool:=
 from_.all (fun i=>ids.contains i)&&ids.all (fun i=>(hp i).ids.all fun j=>ids.contains j)&&Kx ids&&ids.take n0==List.range n0

def Va (n0:Nat) (st:St):Option St:=
 let ids:=jn st.hp 400 (List.range n0++AV.idsL st.tmps) []
 if jx st.hp n0 (AV.idsL st.tmps) ids then
  some { tmps:=AV.renL (fun i=>ids.idxOf i) st.tmps,heap:=ids.map fun i=>(st.hp i).ren fun i=>ids.idxOf i }
 else none

def X1 (n0:Nat) (k:aJ) (st:St):Option St:=
 Va n0 (k.prom.foldl sK { st with tmps:=BH k.slots 0 st.tmps })

def jZ (n0:Nat) (k:aJ) (key:Nat) (todo:List Item) (st:St):Tr zx:=
 match X1 n0 k st with
 | some st'=>.ok (.head key todo st')
 | none=>.err

def dV:Code→Nat
 | .region id _ _=>id
 | .seq a _=>dV a
 | .block _ c=>dV c
 | .loop c=>dV c
 | .scope c=>dV c
 | _=>0

def E3 (E:bS) (st:St):ResultVar→Option AV
 | .tmp t=>some (st.tmps.getD t .any)
 | .cell a t=>match st.tmps.getD a .any with
  | .ptr id off=>match st.hp id with
   | .box cs=>qu E.P t cs off
   | _=>none
  | _=>none

def tw (E:bS) (st:St):List ResultVar→Option (List AV)
 | []=>some []
 | r::rs=>match E3 E st r,tw E st rs with
  | some v,some vs=>some (v::vs)
  | _,_=>none

def Es:List AV→AV
 | [v]=>v
 | vs=>.tup vs

def tv (E:bS) (n0:Nat) (rs:List ResultVar) (st:St):Tr zx:=
 match tw E st rs with
 | some vs=>
  let v:AV:=Es vs
  let ids:=jn st.hp 400 (List.range n0++v.ids) []
  if jx st.hp n0 v.ids ids then .ok (.ret (v.ren fun i=>ids.idxOf i) (ids.map fun i=>(st.hp i).ren fun i=>ids.idxOf i)) else .err
 | none=>.err

def ww (st:St) (c:Operand) (b:Bool):St:=match c with
 | .tmp t=>{ st with tmps:=st.tmps.set t (.kb b) }
 | _=>st

def run (E:bS) (n0:Nat) (keep:Nat→aJ) (rs:List ResultVar):Nat→List Item→St→Tr zx
 | 0,_,_=>.err
 | n + 1,todo,st=>match todo with
  | []=>tv E n0 rs ((keep 1000000).sett.foldl Do ((keep 1000000).prom.foldl sK st))
  | .inBlock _::k=>run E n0 keep rs n k st
  | .inLoop c::k=>if (keep (dV c)).unroll then run E n0 keep rs n (.code c::.inLoop c::k) st else jZ n0 (keep (dV c)) (dV c) (.code c::.inLoop c::k) st
  | .code c::k=>match c with
   | .skip=>run E n0 keep rs n k st
   | .label _=>run E n0 keep rs n k st
   | .seq a b=>match En a b with
    | some (s,x,d,t,thn,els)=>match DS st.hp (st.tmps.getD s .any) with
     | some c=>if IN E.P t&&(decide (d < st.tmps.length)&&decide (x < st.tmps.length)) then .ok (.fork c (.code thn::k) (.code els::k) { st with tmps:=(st.tmps.set x (st.tmps.getD s .any)).set d .any }) else .err
     | none=>.err
    | none=>run E n0 keep rs n (.code a::.code b::k) st
   | .cond c a b=>match tV E st.tmps [] c with
    | .kb true=>run E n0 keep rs n (.code a::k) st
    | .kb false=>run E n0 keep rs n (.code b::k) st
    | .bool x=>.br x (run E n0 keep rs n (.code a::k) (ww st c true)) (run E n0 keep rs n (.code b::k) (ww st c false))
    | _=>.err
   | .block id c=>run E n0 keep rs n (.code c::.inBlock id::k) st
   | .loop c=>if (keep (dV c)).unroll then run E n0 keep rs n (.code c::.inLoop c::k) st else jZ n0 (keep (dV c)) (dV c) (.code c::.inLoop c::k) st
   | .exit id=>match exitTo id k with
    | some k'=>run E n0 keep rs n k' st
    | none=>.err
   | .ret=>tv E n0 rs ((keep 1000000).sett.foldl Do ((keep 1000000).prom.foldl sK st))
   | .region id ops draw=>(rb E ops.toList draw st).bind fun st'=>if (keep (id+500000)).cut then jZ n0 (keep (id+500000)) (id+500000) k st' else run E n0 keep rs n k st'
   | _=>.err
  | _=>.err

def bc (n:Nat) (args:List AV) (heap:List AO):St:={ tmps:=args++List.replicate (n - args.length) (.tup []),heap }

def tm (n:Nat) (l:List (Nat×AV)):List AV:=l.foldl (fun a p=>a.set p.1 p.2) (List.replicate n .any)

abbrev ny:AV:=.any
abbrev ai (n:Int):AV:=.int .i64 n

def cV (k:IntKind) (n:Int):Prop:=k.min≤n∧n≤k.max

def zA:Nat:=9223372036854775807

inductive Rv (w:World) (U:Nat→Prop) (ρ:Nat→Option Value):AV→Value→Prop
 | any (v:Value):Rv w U ρ .any v
 | kb (b:Bool):Rv w U ρ (.kb b) (.bool b)
 | bool (b:Bool):Rv w U ρ (.bool b) (.bool b)
 | int (k:IntKind) (n:Int) (h:cV k n):Rv w U ρ (.int k n) (.int k n)
 | str (s:zw) (h:s.length≤zA):Rv w U ρ (.str s) (.string ⟨s.toArray⟩)
 | nils (a:Option Addr):Rv w U ρ .nils (.slice a 0 0)
 | sl0 (e:Sh) (a:Option Addr) (c:Nat):Rv w U ρ (.sl e []) (.slice a 0 c)
 | sl (e:Sh) (l:List (Sem e)) (b o c:Nat) (vals:Nat→Nat→Value) (hc:l.length≤c) (hm:l.length≤zA) (hb:b < w.heap.size) (hU:¬ U b)
   (hcell:∀ i j,i < l.length→j < e.size→w.cell? ⟨b,o+i * e.size+j,none⟩=some (vals i j))
   (hr:∀ i (hi:i < l.length) (j:Nat) (c:AV),(zp e l[i])[j]?=some c→Rv w U ρ c (vals i j)):
   Rv w U ρ (.sl e l) (.slice (some ⟨b,o,none⟩) l.length c)
 | vec (id:Nat) (v:Value) (h:ρ id=some v) (h1:v.oneCell'=true):Rv w U ρ (.vec id) v
 | ptr (id off b:Nat) (h:ρ id=some (.pointer (some ⟨b,0,none⟩))):Rv w U ρ (.ptr id off) (.pointer (some ⟨b,off,none⟩))
 | vptr (id sz i off b n c:Nat) (h:ρ id=some (.slice (some ⟨b,0,none⟩) n c)):Rv w U ρ (.vptr id sz i off) (.pointer (some ⟨b,i * sz+off,none⟩))
 | eptr (cs:List AV) (off b o:Nat) (vals:Nat→Value) (hb:b < w.heap.size) (hU:¬ U b)
   (hcell:∀ j,j < cs.length→w.cell? ⟨b,o+j,none⟩=some (vals j)) (h1:∀ j,j < cs.length→(vals j).oneCell'=true)
   (hr:∀ (j:Nat) (c:AV),cs[j]?=some c→Rv w U ρ c (vals j)):Rv w U ρ (.eptr cs off) (.pointer (some ⟨b,o+off,none⟩))
 | nilp:Rv w U ρ .nilp (.pointer none)
 | agg (cs:List AV) (vs:List Value) (hl:cs.length=vs.length) (h1:∀ v∈vs,v.oneCell'=true)
   (hr:∀ (j:Nat) (c:AV) (v:Value),cs[j]?=some c→vs[j]?=some v→Rv w U ρ c v):Rv w U ρ (.agg cs) (.agg vs.toArray)
 | tup (cs:List AV) (vs:List Value) (hl:cs.length=vs.length)
   (hr:∀ (j:Nat) (c:AV) (v:Value),cs[j]?=some c→vs[j]?=some v→Rv w U ρ c v):Rv w U ρ (.tup cs) (.tuple vs.toArray)
 | clo (fn:Fn) (fs cs:List AV) (vf vc:List Value) (hf:fs.length=vf.length) (hc:cs.length=vc.length)
   (hrf:∀ (j:Nat) (c:AV) (v:Value),fs[j]?=some c→vf[j]?=some v→Rv w U ρ c v) (hrc:∀ (j:Nat) (c:AV) (v:Value),cs[j]?=some c→vc[j]?=some v→Rv w U ρ c v):
   Rv w U ρ (.clo fn fs cs) (.func fn vf.toArray vc.toArray)
 | nilf:Rv w U ρ .nilf .nilFunc
 | mp (id:Nat) (v:Value) (h:ρ id=some v) (h1:v.oneCell'=true):Rv w U ρ (.mp id) v
 | ifcN:Rv w U ρ (.ifc true) .nilIface
 | ifcS (t:TypeId) (v:Value):Rv w U ρ (.ifc false) (.iface t v)
 | tab (k:IntKind) (zs:List Int) (b:Nat) (T:TypeId) (fr:Nat×Nat) (hb:w.heap[b]?=some (.cells (zs.map fun z=>Value.int k z).toArray T fr)) (hU:¬ U b):Rv w U ρ (.tab k zs) (.pointer (some ⟨b,0,none⟩))
 | gint (m:Int) (b:Nat) (T:TypeId) (fr:Nat×Nat) (hm:cV .i64 m) (hb:w.heap[b]?=some (.cells #[Value.int .i64 m] T fr)) (hU:¬ U b):Rv w U ρ .gint (.pointer (some ⟨b,0,none⟩))
 | vsuf (id sz i n c:Nat) (a:Option Addr) (h:ρ id=some (.slice a n c)) (hi:i≤n) (hn:n≤c):Rv w U ρ (.vsuf id sz i) (.slice (if c=i then a else a.map (·.add (i * sz))) (n - i) (c - i))

structure dh (w:World) (U:Nat→Prop) (ρ:Nat→Option Value) (cs:List AV) (vs:List Value):Prop where
 len:cs.length=vs.length
 rv:∀ (j:Nat) (c:AV) (v:Value),cs[j]?=some c→vs[j]?=some v→Rv w U ρ c v

theorem DK {w:World} {b o:Nat} {v:Value} (h:w.cell? ⟨b,o,none⟩=some v):b < w.heap.size:=by
 unfold World.cell? at h
 rcases Nat.lt_or_ge b w.heap.size with h' | h'
 ·exact h'
 ·simp [Array.getElem?_eq_none h'] at h

theorem Rv.mono {w w':World} {U U':Nat→Prop} {ρ ρ':Nat→Option Value} (hs:w.heap.size≤w'.heap.size)
  (hk:∀ b,b < w.heap.size→¬ U b→w'.heap[b]?=w.heap[b]?) (hu:∀ b,b < w.heap.size→U' b→U b) (hρ:∀ id v,ρ id=some v→ρ' id=some v)
  {c:AV} {v:Value} (h:Rv w U ρ c v):Rv w' U' ρ' c v:=by
 have hcell:∀ b o v,¬ U b→w.cell? ⟨b,o,none⟩=some v→w'.cell? ⟨b,o,none⟩=some v:=by
  intro b o v hb hc
  rw [World.cell?_of_block (hk b (DK hc) hb)]; exact hc
 induction h with
 | any v=>exact .any v
 | kb b=>exact .kb b
 | bool b=>exact .bool b
 | int k n h=>exact .int k n h
 | str s h=>exact .str s h
 | nils a=>exact .nils a
 | sl0 e a c=>exact .sl0 e a c
 | sl e l b o c vals hc hm hb hU hcl hr ih=>
  exact .sl e l b o c vals hc hm (nB hb hs) (fun h=>hU (hu b hb h)) (fun i j hi hj=>hcell _ _ _ hU (hcl i j hi hj)) ih
 | vec id v h h1=>exact .vec id v (hρ _ _ h) h1
 | ptr id off b h=>exact .ptr id off b (hρ _ _ h)
 | vptr id sz i off b n c h=>exact .vptr id sz i off b n c (hρ _ _ h)
 | eptr cs off b o vals hb hU hcl h1 hr ih=>
  exact .eptr cs off b o vals (nB hb hs) (fun h=>hU (hu b hb h)) (fun j hj=>hcell _ _ _ hU (hcl j hj)) h1 ih
 | nilp=>exact .nilp
 | agg cs vs hl h1 hr ih=>exact .agg cs vs hl h1 ih
 | tup cs vs hl hr ih=>exact .tup cs vs hl ih
 | clo fn fs cs vf vc hf hc hrf hrc ihf ihc=>exact .clo fn fs cs vf vc hf hc ihf ihc
 | nilf=>exact .nilf
 | mp id v h h1=>exact .mp id v (hρ _ _ h) h1
 | ifcN=>exact .ifcN
 | ifcS t v=>exact .ifcS t v
 | tab k zs b T fr hb hU=>
  have hlt:b < w.heap.size:=(Bv.1 hb).1
  exact .tab k zs b T fr (by rw [hk b hlt hU]; exact hb) (fun h=>hU (hu b hlt h))
 | gint m b T fr hm hb hU=>
  have hlt:b < w.heap.size:=(Bv.1 hb).1
  exact .gint m b T fr hm (by rw [hk b hlt hU]; exact hb) (fun h=>hU (hu b hlt h))
 | vsuf id sz i n c a h hi hn=>exact .vsuf id sz i n c a (hρ _ _ h) hi hn

theorem dh.mono {w w':World} {U U':Nat→Prop} {ρ ρ':Nat→Option Value} (hs:w.heap.size≤w'.heap.size)
  (hk:∀ b,b < w.heap.size→¬ U b→w'.heap[b]?=w.heap[b]?) (hu:∀ b,b < w.heap.size→U' b→U b) (hρ:∀ id v,ρ id=some v→ρ' id=some v)
  {cs:List AV} {vs:List Value} (h:dh w U ρ cs vs):dh w' U' ρ' cs vs:=
 ⟨h.len,fun j c v hc hv=>(h.rv j c v hc hv).mono hs hk hu hρ⟩

theorem Rv.weak {w:World} {U U':Nat→Prop} {ρ:Nat→Option Value} (hu:∀ b,U' b→U b) {c:AV} {v:Value} (h:Rv w U ρ c v):Rv w U' ρ c v:=
 h.mono (bg _) (fun _ _ _=>rfl) (fun b _=>hu b) (fun _ _ h=>h)

def AO.owns:AO→Bool
 | .box _ | .vec _ _ | .fmap _ | .vmap _ _=>true
 | _=>false

def fG:Value→Option Nat
 | .pointer (some a)=>some a.block
 | .slice (some a) _ c=>if c=0 then none else some a.block
 | .map (some r)=>some r
 | _=>none

def ag (ρ:Nat→Option Value) (id:Nat) (o:AO) (b:Nat):Prop:=o.owns=true∧∃ v,ρ id=some v∧fG v=some b

def fJ (k:Int×Int×zw):Value:=.agg #[.int .i64 k.1,.int .i64 k.2.1,.string ⟨k.2.2.toArray⟩]
def rM (k:Int×Int×zw):Prop:=cV .i64 k.1∧cV .i64 k.2.1∧k.2.2.length≤zA
def mh (ents:Array MapEntry) (clock:Nat):Prop:=clock=ents.size∧∀ (i:Nat) (e:MapEntry),ents[i]?=some e→e.born=i
def r6 (u:Bool) (n:Int):Value:=bif u then .agg #[] else .int .i64 n

def bE (w:World) (U:Nat→Prop) (ρ:Nat→Option Value) (id:Nat):AO→Prop
 | .dead=>True
 | .box cs=>∃ b T vals,ρ id=some (.pointer (some ⟨b,0,none⟩))∧U b∧w.heap[b]?=some (.cells vals T (0,0))∧dh w U ρ cs vals.toList∧∀ v∈vals.toList,v.oneCell'=true
 | .vec e l=>∃ a c,ρ id=some (.slice a l.length c)∧l.length≤zA∧((l=[]∧c=0)∨∃ b T arr,a=some ⟨b,0,none⟩∧0 < c∧U b∧w.heap[b]?=some (.cells arr T (0,0))∧
   arr.size=c * e.size∧l.length≤c∧∀ i (hi:i < l.length) (j:Nat) (c:AV),(zp e l[i])[j]?=some c→∃ v,arr[i * e.size+j]?=some v∧Rv w U ρ c v)
 | .frz e l=>∃ v,ρ id=some v∧Rv w U ρ (.sl e l) v
 | .fmap es=>∃ r ents clock,ρ id=some (.map (some r))∧U r∧w.heap[r]?=some (.map ents clock)∧dh w U ρ (es.map (·.2)) (ents.toList.map (·.val))∧
   ents.toList.map (·.key)=es.map fun p=>Value.string ⟨p.1.toArray⟩
 | .vmap u es=>∃ r ents clock,ρ id=some (.map (some r))∧U r∧w.heap[r]?=some (.map ents clock)∧(ents.toList.map fun e=>(e.key,e.val))=(es.map fun p=>(fJ p.1,r6 u p.2))∧
   (∀ p∈es,cV .i64 p.2∧rM p.1)∧mh ents clock

theorem bE.mono {w w':World} {U U':Nat→Prop} {ρ ρ':Nat→Option Value} (hs:w.heap.size≤w'.heap.size)
  (hk:∀ b,b < w.heap.size→¬ U b→w'.heap[b]?=w.heap[b]?) (hu:∀ b,b < w.heap.size→U' b→U b) (hρ:∀ id v,ρ id=some v→ρ' id=some v)
  {id:Nat} {o:AO} (h:bE w U ρ id o) (hown:∀ b,ag ρ id o b→w'.heap[b]?=w.heap[b]?∧U' b):bE w' U' ρ' id o:=by
 cases o with
 | dead=>trivial
 | box cs=>
  obtain ⟨b,T,vals,h1,h2,h3,h4,h5⟩:=h
  have:=hown b ⟨rfl,_,h1,rfl⟩
  exact ⟨b,T,vals,hρ _ _ h1,this.2,by rw [this.1]; exact h3,h4.mono hs hk hu hρ,h5⟩
 | vec e l=>
  obtain ⟨a,c,h1,h2,h3⟩:=h
  refine ⟨a,c,hρ _ _ h1,h2,?_⟩
  rcases h3 with h3 | ⟨b,T,arr,rfl,hc,hU,hb,hsz,hle,hr⟩
  ·exact .inl h3
  ·have:=hown b ⟨rfl,_,h1,by simp [fG]; omega⟩
   refine .inr ⟨b,T,arr,rfl,hc,this.2,by rw [this.1]; exact hb,hsz,hle,fun i hi j c hx=>?_⟩
   obtain ⟨v,hv,hrv⟩:=hr i hi j c hx
   exact ⟨v,hv,hrv.mono hs hk hu hρ⟩
 | frz e l=>
  obtain ⟨v,h1,h2⟩:=h
  exact ⟨v,hρ _ _ h1,h2.mono hs hk hu hρ⟩
 | fmap es=>
  obtain ⟨r,ents,clock,h1,h2,h3,h4,h5⟩:=h
  have:=hown r ⟨rfl,_,h1,rfl⟩
  exact ⟨r,ents,clock,hρ _ _ h1,this.2,by rw [this.1]; exact h3,h4.mono hs hk hu hρ,h5⟩
 | vmap u es=>
  obtain ⟨r,ents,clock,h1,h2,h3,h4,h5⟩:=h
  have:=hown r ⟨rfl,_,h1,rfl⟩
  exact ⟨r,ents,clock,hρ _ _ h1,this.2,by rw [this.1]; exact h3,h4,h5⟩

theorem bE.inU {w:World} {U:Nat→Prop} {ρ:Nat→Option Value} {id:Nat} {o:AO} (h:bE w U ρ id o) {b:Nat} (hb:ag ρ id o b):U b∧b < w.heap.size:=by
 obtain ⟨ho,v,hv,hbv⟩:=hb
 cases o with
 | dead=>simp [AO.owns] at ho
 | frz e l=>simp [AO.owns] at ho
 | box cs=>
  obtain ⟨b',T,vals,h1,h2,h3,h4,h5⟩:=h
  rw [h1] at hv; cases hv
  simp [fG] at hbv; subst hbv
  exact ⟨h2,(Bv.1 h3).1⟩
 | vec e l=>
  obtain ⟨a,c,h1,h2,h3⟩:=h
  rw [h1] at hv; cases hv
  rcases h3 with ⟨_,rfl⟩ | ⟨b',T,arr,rfl,hc,hU,hb',_⟩
  ·cases a <;> simp [fG] at hbv
  ·simp [fG] at hbv
   obtain ⟨_,rfl⟩:=hbv
   exact ⟨hU,(Bv.1 hb').1⟩
 | fmap es=>
  obtain ⟨r,ents,clock,h1,h2,h3,h4,h5⟩:=h
  rw [h1] at hv; cases hv
  simp [fG] at hbv; subst hbv
  exact ⟨h2,(Bv.1 h3).1⟩
 | vmap u es=>
  obtain ⟨r,ents,clock,h1,h2,h3,h4,h5⟩:=h
  rw [h1] at hv; cases hv
  simp [fG] at hbv; subst hbv
  exact ⟨h2,(Bv.1 h3).1⟩

theorem ac:∀ (s:Sh) (x:Sem s),(zp s x).length=s.size
 | .unit,_=>rfl
 | .bool,_=>rfl
 | .int _,_=>rfl
 | .str,_=>rfl
 | .sl _,_=>rfl
 | .pr a b,x=>by simp [zp,Sh.size,ac a,ac b]
 | .expr,_=>rfl

theorem wt {w:World} {U U':Nat→Prop} {ρ:Nat→Option Value} {hp:Nat→AO} {e:Sh} {c:AV} {l:List (Sem e)} {v:Value}
  (h:ua hp e c=some l) (hr:Rv w U ρ c v) (hu:∀ b,U' b→U b)
  (hob:∀ id∈cD c,bE w U ρ id (hp id)) (hof:∀ id∈cD c,∀ b,ag ρ id (hp id) b→¬ U' b):Rv w U' ρ (.sl e l) v:=by
 cases c <;> simp [ua] at h
 case nils=>
  subst h
  cases hr
  exact .sl0 e _ _
 case sl e' l'=>
  obtain ⟨rfl,h⟩:=h
  subst h
  exact hr.weak hu
 case vec id=>
  cases hr with
  | vec _ _ hv _=>
  have h1:=hob id (by simp [cD])
  have h2:=hof id (by simp [cD])
  cases ho:hp id with
  | dead=>simp [ho] at h
  | box cs=>simp [ho] at h
  | fmap es=>simp [ho] at h
  | vmap u es=>simp [ho] at h
  | frz e' l'=>
   simp [ho] at h
   obtain ⟨rfl,h⟩:=h
   subst h
   rw [ho] at h1
   obtain ⟨v',hv',hrv⟩:=h1
   rw [hv] at hv'; cases hv'
   exact hrv.weak hu
  | vec e' l'=>
   simp [ho] at h
   obtain ⟨rfl,h⟩:=h
   subst h
   rw [ho] at h1 h2
   obtain ⟨a,c,hv',hm,h3⟩:=h1
   rw [hv] at hv'; cases hv'
   rcases h3 with ⟨hl,hc⟩ | ⟨b,T,arr,rfl,hc,hU,hb,hsz,hle,hrr⟩
   ·show Rv w U' ρ (.sl e' l') _
    subst hl
    exact .sl0 e' _ _
   ·show Rv w U' ρ (.sl e' l') _
    have hnb:¬ U' b:=h2 b ⟨rfl,_,hv,by simp [fG]; omega⟩
    have hblt:=(Bv.1 hb).1
    refine .sl e' l' b 0 c (fun i j=>(arr[i * e'.size+j]?).getD undef) hle hm hblt hnb (fun i j hi hj=>?_) (fun i hi j cc hx=>?_)
    ·have hlt:i * e'.size+j < arr.size:=by
      rw [hsz]
      have:(i+1) * e'.size≤c * e'.size:=fP _ (by omega)
      rw [gF] at this
      omega
     simp [World.cell?,hb,jO hlt]
    ·obtain ⟨v,hv1,hrv⟩:=hrr i hi j cc hx
     simp [hv1]
     exact hrv.weak hu

theorem j0 {w:World} {U U':Nat→Prop} {ρ:Nat→Option Value} {hp:Nat→AO} (hu:∀ b,U' b→U b):
  ∀ (s:Sh) (cs:List AV) (x:Sem s) (r:List AV) (vals:Nat→Value),cu hp s cs=some (x,r)→
   (∀ (j:Nat) (c:AV),cs[j]?=some c→Rv w U ρ c (vals j))→(∀ id∈cs.flatMap cD,bE w U ρ id (hp id)∧∀ b,ag ρ id (hp id) b→¬ U' b)→
   cs.length=s.size+r.length∧r=cs.drop s.size∧∀ (j:Nat) (c:AV),(zp s x)[j]?=some c→Rv w U' ρ c (vals j):=by
 intro s
 induction s with
 | unit=>
  intro cs x r vals h hr hob
  simp [cu] at h
  subst h
  refine ⟨by simp [Sh.size],by simp [Sh.size],by simp [zp]⟩
 | bool=>
  intro cs x r vals h hr hob
  cases cs with
  | nil=>simp [cu] at h
  | cons c cs=>
   cases c <;> simp [cu] at h <;> (obtain ⟨rfl,rfl⟩:=h) <;> refine ⟨by simp [Sh.size]; omega,by simp [Sh.size],?_⟩
   all_goals
    intro j c hj
    cases j with
    | succ j=>simp [zp] at hj
    | zero=>
     simp [zp] at hj; subst hj
     have:=hr 0 _ rfl
     generalize vals 0=v at this
     cases this
     exact .bool _
 | int k=>
  intro cs x r vals h hr hob
  cases cs with
  | nil=>simp [cu] at h
  | cons c cs=>
   cases c <;> simp [cu] at h
   obtain ⟨rfl,rfl,rfl⟩:=h
   refine ⟨by simp [Sh.size]; omega,by simp [Sh.size],?_⟩
   intro j c hj
   cases j with
   | succ j=>simp [zp] at hj
   | zero=>
    simp [zp] at hj; subst hj
    exact (hr 0 _ rfl).weak hu
 | str=>
  intro cs x r vals h hr hob
  cases cs with
  | nil=>simp [cu] at h
  | cons c cs=>
   cases c <;> simp [cu] at h
   obtain ⟨rfl,rfl⟩:=h
   refine ⟨by simp [Sh.size]; omega,by simp [Sh.size],?_⟩
   intro j c hj
   cases j with
   | succ j=>simp [zp] at hj
   | zero=>
    simp [zp] at hj; subst hj
    exact (hr 0 _ rfl).weak hu
 | sl e ih=>
  intro cs x r vals h hr hob
  cases cs with
  | nil=>simp [cu] at h
  | cons c cs=>
   simp only [cu] at h
   split at h
   ·rename_i l hl
    cases h
    refine ⟨by simp [Sh.size]; omega,by simp [Sh.size],?_⟩
    intro j c hj
    cases j with
    | succ j=>simp [zp] at hj
    | zero=>
     simp [zp] at hj; subst hj
     exact wt hl (hr 0 _ rfl) hu (fun id hid=>(hob id (by simp [hid])).1) (fun id hid=>(hob id (by simp [hid])).2)
   ·cases h
 | pr a b iha ihb=>
  intro cs x r vals h hr hob
  simp only [cu] at h
  split at h
  ·rename_i x1 r1 h1
   split at h
   ·rename_i x2 r2 h2
    cases h
    obtain ⟨l1,e1,g1⟩:=iha cs x1 r1 vals h1 hr hob
    subst e1
    obtain ⟨l2,e2,g2⟩:=ihb _ x2 r (fun j=>vals (a.size+j)) h2 (fun j c hj=>by
      rw [rO] at hj; exact hr _ _ hj)
     (fun id hid=>hob id (by
      simp only [F2] at hid ⊢
      obtain ⟨c,hc,hid⟩:=hid
      exact ⟨c,List.mem_of_mem_drop hc,hid⟩))
    refine ⟨?_,?_,?_⟩
    ·simp [Sh.size] at *; omega
    ·rw [e2,B9]; simp [Sh.size]
    ·intro j c hj
     simp only [zp] at hj
     by_cases hlt:j < a.size
     ·rw [kv (by rw [ac]; exact hlt)] at hj
      exact g1 j c hj
     ·rw [ml (by rw [ac]; omega),ac] at hj
      have:=g2 _ c hj
      rwa [show a.size+(j - a.size)=j by omega] at this
   ·cases h
  ·cases h
 | expr=>
  intro cs x r vals h hr hob
  simp only [cu] at h
  unfold sr at h
  split at h <;> try (cases h; done)
  rename_i op k i vs s c r'
  split at h
  ·rename_i l hl
   cases h
   refine ⟨by simp [Sh.size]; omega,by simp [Sh.size],?_⟩
   intro j c' hj
   match j with
   | 0=>simp [zp,ze.op] at hj; subst hj; exact (hr 0 _ rfl).weak hu
   | 1=>simp [zp,ze.v] at hj; subst hj; exact (hr 1 _ rfl).weak hu
   | 2=>simp [zp,ze.v] at hj; subst hj; exact (hr 2 _ rfl).weak hu
   | 3=>simp [zp,ze.v] at hj; subst hj; exact (hr 3 _ rfl).weak hu
   | 4=>simp [zp,ze.s] at hj; subst hj; exact (hr 4 _ rfl).weak hu
   | 5=>
    simp [zp,ze.l] at hj; subst hj
    exact wt hl (hr 5 _ rfl) hu (fun id hid=>(hob id (by simp [hid])).1) (fun id hid=>(hob id (by simp [hid])).2)
   | j+6=>simp [zp] at hj
  ·cases h


@[simp] theorem Tr.val_bind {α β:Type} (t:Tr α) (k:α→Tr β):(t.bind k).val=t.val.bind fun a=>(k a).val:=by
 induction t with
 | err=>rfl
 | chk c t ih=>cases c <;> simp [Tr.bind,Tr.val,ih]
 | br c t f iht ihf=>cases c <;> simp [Tr.bind,Tr.val,iht,ihf]
 | ok a=>rfl
@[simp] theorem Tr.val_err {α:Type}:(Tr.err:Tr α).val=none:=rfl
@[simp] theorem Tr.val_ok {α:Type} (a:α):(Tr.ok a).val=some a:=rfl
@[simp] theorem Tr.val_chk {α:Type} (c:Bool) (t:Tr α) (a:α):(Tr.chk c t).val=some a↔c=true∧t.val=some a:=by cases c <;> simp [Tr.val]
@[simp] theorem zer (v:AV) (f:fm):(ret v).val=some f↔f={ val:=v }:=by simp [ret,eq_comm]
@[simp] theorem zej (v:Option AV) (f:fm):(BI v).val=some f↔∃ x,v=some x∧f={ val:=x }:=by
 cases v <;> simp [BI]

section
variable {P:Program} {w:World} {U:Nat→Prop} {ρ:Nat→Option Value}

theorem bZ {t:TypeId} {n:Nat} (h:eU P t=some n) (w:World):(Go.sizeOf t).run P w=.ok n w:=by
 unfold eU at h
 cases hi:P.info? t with
 | none=>simp [hi] at h
 | some i=>simp [hi] at h; simp [Go.sizeOf,typeInfo,hi,h]

theorem iV {t:TypeId} {b:Bool} (h:Be P t=some b) (w:World):(isAgg t).run P w=.ok b w:=by
 unfold Be at h
 cases hu:P.underlying t with
 | none=>simp [hu] at h
 | some d=>cases d <;> simp [hu] at h <;> subst h <;> simp [isAgg,bn hu]

theorem Addr.add_none (b o n:Nat):(⟨b,o,none⟩:Addr).add n=⟨b,o+n,none⟩:=by
 unfold Addr.add; split <;> simp_all

theorem pJ {n j k:Nat} (h:(List.range n)[j]?=some k):j < n∧k=j:=by
 obtain ⟨h1,h2⟩:=cn.1 h
 simp at h1 h2
 exact ⟨h1,h2.symm⟩

theorem rz {t:TypeId} {cs:List AV} {off:Nat} {r:AV} {b o:Nat} {vals:Nat→Value} (h:qu P t cs off=some r)
  (hcell:∀ j,j < cs.length→w.cell? ⟨b,o+j,none⟩=some (vals j)) (h1:∀ j,j < cs.length→(vals j).oneCell'=true)
  (hr:∀ (j:Nat) (c:AV),cs[j]?=some c→Rv w U ρ c (vals j)):
  ∃ x,(loadVar t ⟨b,o+off,none⟩).run P w=.ok x w∧Rv w U ρ r x:=by
 unfold qu at h
 split at h
 ·rename_i n ha hn
  split at h
  ·rename_i hle
   cases h
   refine ⟨.agg ((List.range n).map fun j=>vals (off+j)).toArray,?_,?_⟩
   ·have:=run_loadCells_list (P:=P) w ⟨b,o+off,none⟩ ((List.range n).map fun j=>vals (off+j)) (fun j v hv=>by
     rw [Addr.add_none]
     simp only [dP,cW] at hv
     obtain ⟨j',hj,rfl⟩:=hv
     obtain ⟨hlt,hjj⟩:=pJ hj
     subst hjj
     rw [show o+off+j'=o+(off+j') by omega]
     exact hcell _ (by omega))
    simp only [dI,List.length_range] at this
    simp [loadVar,iV ha,bZ hn,this]
   ·refine .agg _ _ (by simp; omega) (fun v hv=>?_) (fun j c v hc hv=>?_)
    ·simp only [fQ,xI] at hv
     obtain ⟨j,hj,rfl⟩:=hv
     exact h1 _ (by omega)
    ·simp only [dP,cW] at hv
     obtain ⟨j',hj,rfl⟩:=hv
     obtain ⟨hlt,hjj⟩:=pJ hj
     subst hjj
     rw [B5,if_pos hlt,rO] at hc
     exact hr _ _ hc
  ·cases h
 ·rename_i ha
  have hlt:off < cs.length:=(cn.1 h).1
  refine ⟨vals off,?_,hr _ _ h⟩
  simp [loadVar,iV ha,hcell off hlt]
 ·cases h

theorem Rv.sl_one {e:Sh} {l:List (Sem e)} {v:Value} (h:Rv w U ρ (.sl e l) v):v.oneCell'=true:=by
 cases h <;> rfl

theorem iP:∀ (e:Sh) (x:Sem e) (j:Nat) (c:AV) (v:Value),(zp e x)[j]?=some c→Rv w U ρ c v→v.oneCell'=true
 | .unit,_,_,_,_,h,_=>by simp [zp] at h
 | .bool,_,0,_,_,h,hr=>by simp [zp] at h; subst h; cases hr; rfl
 | .int _,_,0,_,_,h,hr=>by simp [zp] at h; subst h; cases hr; rfl
 | .str,_,0,_,_,h,hr=>by simp [zp] at h; subst h; cases hr; rfl
 | .sl _,_,0,_,_,h,hr=>by simp [zp] at h; subst h; cases hr <;> rfl
 | .bool,_,_+1,_,_,h,_=>by simp [zp] at h
 | .int _,_,_+1,_,_,h,_=>by simp [zp] at h
 | .str,_,_+1,_,_,h,_=>by simp [zp] at h
 | .sl _,_,_+1,_,_,h,_=>by simp [zp] at h
 | .pr a b,x,j,c,v,h,hr=>by
  simp only [zp] at h
  rcases Nat.lt_or_ge j (zp a x.1).length with hl | hl
  ·rw [kv hl] at h
   exact iP a _ _ _ _ h hr
  ·rw [ml hl] at h
   exact iP b _ _ _ _ h hr
 | .expr,x,j,c,v,h,hr=>by
  match j with
  | 0=>simp [zp] at h; subst h; cases hr; rfl
  | 1=>simp [zp] at h; subst h; cases hr; rfl
  | 2=>simp [zp] at h; subst h; cases hr; rfl
  | 3=>simp [zp] at h; subst h; cases hr; rfl
  | 4=>simp [zp] at h; subst h; cases hr; rfl
  | 5=>simp [zp] at h; subst h; exact hr.sl_one
  | _+6=>simp [zp] at h

theorem eY {av:AV} {cs:List AV} {v:Value} (h:cellsOf av=some cs) (hr:Rv w U ρ av v):
  dh w U ρ cs v.cells.toList∧∀ x∈v.cells.toList,x.oneCell'=true:=by
 have one:∀ {av:AV},v.oneCell'=true→Rv w U ρ av v→dh w U ρ [av] v.cells.toList∧∀ x∈v.cells.toList,x.oneCell'=true:=by
  intro av h1 hr
  have:v.cells = #[v]:=by cases v <;> simp [Value.oneCell'] at h1 <;> rfl
  rw [this]
  refine ⟨⟨rfl,fun j c x hc hx=>?_⟩,by simpa using h1⟩
  cases j with
  | zero=>simp at hc hx; subst hc; subst hx; exact hr
  | succ j=>simp at hc
 cases hr with
 | any v=>simp [cellsOf] at h
 | tup cs vs hl hr=>simp [cellsOf] at h
 | agg cs' vs hl h1 hr=>
  simp [cellsOf] at h; subst h
  exact ⟨⟨by simp [Value.cells,hl],fun j c v hc hv=>hr j c v hc (by simpa [Value.cells] using hv)⟩,by simpa [Value.cells] using h1⟩
 | kb b=>simp [cellsOf] at h; subst h; exact one rfl (.kb b)
 | bool b=>simp [cellsOf] at h; subst h; exact one rfl (.bool b)
 | int k n hk=>simp [cellsOf] at h; subst h; exact one rfl (.int k n hk)
 | str s hs=>simp [cellsOf] at h; subst h; exact one rfl (.str s hs)
 | nils a=>simp [cellsOf] at h; subst h; exact one rfl (.nils a)
 | sl0 e a c=>simp [cellsOf] at h; subst h; exact one rfl (.sl0 e a c)
 | sl e l b o c vals hc hm hb hU hcell hr=>simp [cellsOf] at h; subst h; exact one rfl (.sl e l b o c vals hc hm hb hU hcell hr)
 | vec id v hv h1=>simp [cellsOf] at h; subst h; exact one h1 (.vec id v hv h1)
 | ptr id off b hb=>simp [cellsOf] at h; subst h; exact one rfl (.ptr id off b hb)
 | vptr id sz i off b n c hb=>simp [cellsOf] at h; subst h; exact one rfl (.vptr id sz i off b n c hb)
 | eptr cs off b o vals hb hU hcell h1 hr=>simp [cellsOf] at h; subst h; exact one rfl (.eptr cs off b o vals hb hU hcell h1 hr)
 | nilp=>simp [cellsOf] at h; subst h; exact one rfl .nilp
 | clo fn fs cs vf vc hf hc hrf hrc=>simp [cellsOf] at h; subst h; exact one rfl (.clo fn fs cs vf vc hf hc hrf hrc)
 | nilf=>simp [cellsOf] at h; subst h; exact one rfl .nilf
 | mp id v hv h1=>simp [cellsOf] at h; subst h; exact one h1 (.mp id v hv h1)
 | ifcN=>simp [cellsOf] at h; subst h; exact one rfl .ifcN
 | ifcS t v=>simp [cellsOf] at h; subst h; exact one rfl (.ifcS t v)
 | tab k zs b T fr hb hU=>simp [cellsOf] at h; subst h; exact one rfl (.tab k zs b T fr hb hU)
 | gint m b T fr hm hb hU=>simp [cellsOf] at h; subst h; exact one rfl (.gint m b T fr hm hb hU)
 | vsuf id sz i n c a hb hi hn=>simp [cellsOf] at h

theorem LK {b:Nat} {vals:Array Value} {T:TypeId} {fz:Nat×Nat} (h:w.heap[b]?=some (.cells vals T fz)) (j:Nat) (hj:j < vals.size):
  w.cell? ⟨b,j,none⟩=some (vals.toList.getD j undef):=by
 simp [World.cell?,h,jO hj,List.getD]

theorem CG {hp:Nat→AO} {t:TypeId} {av:AV} {v:Value} {f:fm} (h:(D6 P hp t av).val=some f) (hv:Rv w U ρ av v)
  (hob:∀ id∈av.ids,bE w U ρ id (hp id)):∃ r x,f={ val:=r }∧(Instr.loadAt t v).run P w=.ok x w∧Rv w U ρ r x:=by
 unfold D6 at h
 split at h
 ·rename_i id off
  cases hv with
  | ptr _ _ b hb=>
  have ho:=hob id (by simp [AV.ids])
  split at h
  ·rename_i cs hcs
   rw [hcs] at ho
   obtain ⟨b',T,vals,h1,h2,h3,h4,h5⟩:=ho
   rw [hb] at h1; cases h1
   simp at h
   obtain ⟨r,hr,rfl⟩:=h
   obtain ⟨x,hx,hrx⟩:=rz (w:=w) (U:=U) (ρ:=ρ) (b:=b) (o:=0) (vals:=fun j=>vals.toList.getD j undef) hr
    (fun j hj=>by rw [gE]; exact LK h3 j (by rw [h4.len] at hj; simpa using hj))
    (fun j hj=>h5 _ (by
     rw [h4.len] at hj
     rw [aP,zP hj]; simp))
    (fun j c hc=>h4.rv j c _ hc (by
     have hj:j < vals.toList.length:=by rw [← h4.len]; exact (cn.1 hc).1
     rw [aP,zP hj]; simp))
   rw [gE] at hx
   exact ⟨r,x,rfl,by simp [Instr.loadAt,Instr.sureAddr,hx],hrx⟩
  ·simp at h
 ·rename_i cs off
  cases hv with
  | eptr _ _ b o vals hb hU hcell h1 hr=>
  simp at h
  obtain ⟨r,hrr,rfl⟩:=h
  obtain ⟨x,hx,hrx⟩:=rz (w:=w) (U:=U) (ρ:=ρ) hrr hcell h1 hr
  exact ⟨r,x,rfl,by simp [Instr.loadAt,Instr.sureAddr,hx],hrx⟩
 ·rename_i id sz i off
  cases hv with
  | vptr _ _ _ _ b n c hb=>
  have ho:=hob id (by simp [AV.ids])
  split at h
  ·rename_i e l hcs
   rw [hcs] at ho
   obtain ⟨a,c',h1,hm,h3⟩:=ho
   rw [hb] at h1; cases h1
   split at h
   ·rename_i hsz
    subst hsz
    simp at h
    obtain ⟨hi,r,hr,rfl⟩:=h
    rcases h3 with ⟨rfl,_⟩ | ⟨b',T,arr,hba,hc,hU,hbb,hsz,hle,hrr⟩
    ·simp at hi
    ·cases hba
     have hget:l[i]?.getD (zi e)=l[i]:=by simp [zP hi]
     rw [hget] at hr
     have hcells:∀ j,j < (zp e l[i]).length→∃ v c,arr[i * e.size+j]?=some v∧(zp e l[i])[j]?=some c∧Rv w U ρ c v:=by
      intro j hj
      obtain ⟨v,h1,h2⟩:=hrr i hi j _ (zP hj)
      exact ⟨v,_,h1,zP hj,h2⟩
     obtain ⟨x,hx,hrx⟩:=rz (w:=w) (U:=U) (ρ:=ρ) (b:=b) (o:=i * e.size) (vals:=fun j=>(arr[i * e.size+j]?).getD undef) hr
      (fun j hj=>by
       obtain ⟨v,c,h1,h2,h3⟩:=hcells j hj
       simp [World.cell?,hbb,h1])
      (fun j hj=>by
       obtain ⟨v,c,h1,h2,h3⟩:=hcells j hj
       simp only [h1,cX]
       exact iP _ _ _ _ _ h2 h3)
      (fun j c hc=>by
       obtain ⟨v,c',h1,h2,h3⟩:=hcells j (cn.1 hc).1
       rw [hc] at h2; cases h2
       simpa only [h1,cX] using h3)
     exact ⟨r,x,rfl,by simp [Instr.loadAt,Instr.sureAddr,hx],hrx⟩
   ·simp at h
  ·simp at h
 ·simp at h

theorem Iz {t:TypeId} {fl:Nat} {av:AV} {v:Value} {f:fm} (h:(D4 P t fl av).val=some f) (hv:Rv w U ρ av v):
  ∃ r x,f={ val:=r }∧(Instr.fieldAt t v fl).run P w=.ok x w∧Rv w U ρ r x:=by
 unfold D4 at h
 split at h
 ·rename_i fd hfd
  unfold wz at hfd
  split at hfd
  ·rename_i fs hu
   split at h
   ·rename_i k hk
    have hplace:∀ a:Addr,(fieldPlace a fd).run P w=.ok (a.add fd.offset) w:=by
     intro a
     simp [fieldPlace,bZ hk]
    split at h
    ·rename_i id off
     cases hv with
     | ptr _ _ b hb=>
     simp at h; subst h
     exact ⟨_,_,rfl,by simp [Instr.fieldAt,bn hu,hfd,Instr.sureAddr,hplace,Addr.add_none],.ptr id (off+fd.offset) b hb⟩
    ·rename_i cs off
     cases hv with
     | eptr _ _ b o vals hb hU hcell h1 hr=>
     simp at h; subst h
     refine ⟨_,_,rfl,by simp [Instr.fieldAt,bn hu,hfd,Instr.sureAddr,hplace,Addr.add_none]; rfl,?_⟩
     rw [Nat.add_assoc]
     exact .eptr cs (off+fd.offset) b o vals hb hU hcell h1 hr
    ·rename_i id sz i off
     cases hv with
     | vptr _ _ _ _ b n c hb=>
     simp at h; subst h
     refine ⟨_,_,rfl,by simp [Instr.fieldAt,bn hu,hfd,Instr.sureAddr,hplace,Addr.add_none]; rfl,?_⟩
     rw [Nat.add_assoc]
     exact .vptr id sz i (off+fd.offset) b n c hb
    ·simp at h
   ·simp at h
  ·cases hfd
 ·simp at h

theorem kJ {k:Int} {n:Nat}:zR k n=true↔0≤k∧k < n:=by simp [zR]

theorem J0 {k:Int} {g:Nat→AV} {e:fm}:∀ (n i:Nat),(LG k g i n).val=some e→(i:Int)≤k→k < i+n→e={ val:=g k.toNat }
 | 0,_,h,_,_=>by simp [LG] at h
 | 1,i,h,h1,h2=>by
  have:k.toNat=i:=by omega
  simp [LG] at h
  rw [this]; first | exact h | exact h.symm
 | n+2,i,h,h1,h2=>by
  rw [LG,Tr.val] at h
  split at h
  ·rename_i hk
   have hk:k=i:=by simpa using hk
   have:k.toNat=i:=by omega
   simp at h
   rw [this]; first | exact h | exact h.symm
  ·rename_i hk
   have hk:k≠i:=by simpa using hk
   exact J0 (n+1) (i+1) h (by omega) (by omega)

theorem yo {hp:Nat→AO} {t:TypeId} {ax ai:AV} {vx vi:Value} {f:fm} (h:(nJ P hp t ax ai).val=some f)
  (hx:Rv w U ρ ax vx) (hi:Rv w U ρ ai vi) (hob:∀ id∈ax.ids,bE w U ρ id (hp id)):
  ∃ r x,f={ val:=r }∧(Instr.indexAt t vx vi).run P w=.ok x w∧Rv w U ρ r x:=by
 have pure_sl:∀ (e:Sh) (l:List (Sem e)) (k:Int) (ik:IntKind) (elem:TypeId),P.underlying t=some (.slice elem)→eU P elem=some e.size→0≤k→k < l.length→
   Rv w U ρ (.sl e l) vx→∃ x,(Instr.indexAt t vx (.int ik k)).run P w=.ok x w∧Rv w U ρ (.eptr (zp e (l.getD k.toNat (zi e))) 0) x:=by
  intro e l k ik elem hu hsz h0 h1 hr
  cases hr with
  | sl0 _ a c=>simp at h1; omega
  | sl _ _ b o c vals hc hm hb hU hcell hrr=>
   have hlt:k.toNat < l.length:=by omega
   refine ⟨.pointer (some ⟨b,o+k.toNat * e.size+0,none⟩),?_,?_⟩
   ·simp [Instr.indexAt,asIntOf,bn hu,h0,h1,bZ hsz,Addr.add_none]
   ·have hget:l.getD k.toNat (zi e)=l[k.toNat]:=by simp [List.getD,zP hlt]
    rw [hget]
    exact .eptr _ 0 b (o+k.toNat * e.size) (fun j=>vals k.toNat j) hb hU (fun j hj=>hcell _ _ hlt (by rwa [ac] at hj))
     (fun j hj=>iP _ _ j _ _ (zP hj) (hrr _ hlt j _ (zP hj))) (fun j c hc=>hrr _ hlt j c hc)
 unfold nJ at h
 split at h
 ·rename_i ik k
  cases hi
  split at h
  ·rename_i elem hu
   split at h
   ·rename_i e l
    split at h
    ·rename_i hsz
     simp [kJ] at h
     obtain ⟨⟨h0,h1⟩,rfl⟩:=h
     obtain ⟨x,h2,h3⟩:=pure_sl e l k ik elem hu hsz h0 h1 hx
     exact ⟨_,x,rfl,h2,h3⟩
    ·simp at h
   ·rename_i id
    have ho:=hob id (by simp [AV.ids])
    split at h
    ·rename_i e l hcs
     rw [hcs] at ho
     split at h
     ·rename_i hsz
      simp [kJ] at h
      obtain ⟨⟨h0,h1⟩,rfl⟩:=h
      obtain ⟨a,c',hr,hm,h3⟩:=ho
      cases hx with
      | vec _ _ hv _=>
      rw [hr] at hv; cases hv
      rcases h3 with ⟨rfl,_⟩ | ⟨b',T,arr,rfl,hc,hU,hbb,hsz',hle,hrr⟩
      ·simp at h1; omega
      ·refine ⟨_,.pointer (some ⟨b',k.toNat * e.size+0,none⟩),rfl,?_,.vptr id e.size k.toNat 0 b' _ _ hr⟩
       simp [Instr.indexAt,asIntOf,bn hu,h0,h1,bZ hsz,Addr.add_none]
     ·simp at h
    ·rename_i e l hcs
     rw [hcs] at ho
     split at h
     ·rename_i hsz
      simp [kJ] at h
      obtain ⟨⟨h0,h1⟩,rfl⟩:=h
      obtain ⟨v',hv',hrv⟩:=ho
      cases hx with
      | vec _ _ hv _=>
      rw [hv] at hv'; cases hv'
      obtain ⟨x,h2,h3⟩:=pure_sl e l k ik elem hu hsz h0 h1 hrv
      exact ⟨_,x,rfl,h2,h3⟩
     ·simp at h
    ·simp at h
   ·simp at h
  ·rename_i len elem hu
   split at h
   ·rename_i sz hsz
    split at h
    ·rename_i id off
     simp [kJ] at h
     obtain ⟨⟨h0,h1⟩,rfl⟩:=h
     cases hx with
     | ptr _ _ b hb=>
     refine ⟨_,_,rfl,?_,.ptr id (off+k.toNat * sz) b hb⟩
     simp [Instr.indexAt,asIntOf,bn hu,h0,h1,bZ hsz,Addr.add_none,Instr.sureAddr]
    ·rename_i cs off
     simp only [Tr.val] at h
     split at h
     rotate_left
     ·cases h
     rename_i hin
     obtain ⟨h0,h1⟩:=kJ.1 hin
     have h:=J0 _ _ h (by omega) (by omega)
     subst h
     cases hx with
     | eptr _ _ b o vals hb hU hcell hone hr=>
     refine ⟨_,.pointer (some ⟨b,o+(off+k.toNat * sz),none⟩),rfl,?_,.eptr cs (off+k.toNat * sz) b o vals hb hU hcell hone hr⟩
     simp [Instr.indexAt,asIntOf,bn hu,h0,h1,bZ hsz,Addr.add_none,Instr.sureAddr,Nat.add_assoc]
    ·simp at h
   ·simp at h
  ·simp at h
 ·simp at h

end
section
variable {P:Program} {w:World} {U:Nat→Prop} {ρ:Nat→Option Value}

theorem Mf {k:IntKind} {n:Int} (h:IL k n=true):cV k n:=by
 cases k <;> simp [IL] at h <;> simp [cV,IntKind.min,IntKind.max,IntKind.signed,IntKind.bits] <;> omega

theorem JV (v:Value):Rv w U ρ (FR v) v:=by
 unfold FR
 split
 ·exact .kb _
 ·split
  ·rename_i h; exact .int _ _ (Mf h)
  ·exact .any _
 ·rename_i s
  split
  ·rename_i h
   have:s=⟨s.data.toList.toArray⟩:=by cases s; simp
   have h2:s.data.toList.length≤zA:=by unfold zA; omega
   have:=Rv.str (w:=w) (U:=U) (ρ:=ρ) s.data.toList h2
   simpa using this
  ·exact .any _
 ·exact .nils _
 ·exact .nilp
 ·exact .nilf
 ·exact .ifcN
 ·exact .any _

theorem SF (v:Value):zd6 v=v.oneCell':=by cases v <;> rfl

theorem mi (v:Value):Rv w U ρ (DB v) v:=by
 unfold DB
 split
 ·rename_i cs
  split
  ·rename_i h
   have:=Rv.agg (w:=w) (U:=U) (ρ:=ρ) (cs.toList.map FR) cs.toList (by simp) (fun v hv=>by
    rw [← SF]; exact fE.1 h v hv) (fun j c v hc hv=>by
    simp only [dP,cW] at hc
    obtain ⟨v',hv',rfl⟩:=hc
    rw [hv] at hv'; cases hv'
    exact JV v)
   simpa using this
  ·exact .any _
 ·exact JV _

theorem mW (k:IntKind) (n:Int):cV k (k.wrap n):=by
 cases k <;> simp [cV,IntKind.min,IntKind.max,IntKind.signed,IntKind.bits,IntKind.wrap] <;> (try split) <;> omega

theorem yU {c:Bool} {x y z:AV} {v:Value} (h:pf c x y=some z) (hr:Rv w U ρ (if c then x else y) v):Rv w U ρ z v:=by
  unfold pf at h
  split at h
  all_goals first
    | (cases h; cases c <;> simp at hr ⊢ <;> cases hr <;> first | exact .bool _ | exact .str _ ‹_›)
    | (split at h
       · rename_i hk; subst hk; cases h; cases c <;> simp at hr ⊢ <;> exact hr
       · cases h)
    | cases h

theorem y9 {t:TypeId} {cs:List AV} {off:Nat} {r:AV} {vs:List Value} (h:qu P t cs off=some r)
  (hl:cs.length=vs.length) (h1:∀ v∈vs,v.oneCell'=true) (hr:∀ (j:Nat) (c:AV) (v:Value),cs[j]?=some c→vs[j]?=some v→Rv w U ρ c v):
  ∃ x,(part t vs.toArray off).run P w=.ok x w∧Rv w U ρ r x:=by
 unfold qu at h
 split at h
 ·rename_i n ha hn
  split at h
  ·rename_i hle
   cases h
   refine ⟨.agg (vs.toArray.extract off (off+n)),by simp [part,iV ha,bZ hn],?_⟩
   have he:vs.toArray.extract off (off+n)=((vs.drop off).take n).toArray:=by
    apply ig
    simp [List.extract_eq_take_drop]
   rw [he]
   refine .agg _ _ (by simp [hl]) (fun v hv=>h1 v (List.mem_of_mem_drop (List.mem_of_mem_take hv))) (fun j c v hc hv=>?_)
   rw [B5] at hc hv
   split at hc
   ·rename_i hlt
    rw [if_pos hlt] at hv
    rw [rO] at hc hv
    exact hr _ _ _ hc hv
   ·cases hc
  ·cases h
 ·rename_i ha
  have hlt:off < cs.length:=(cn.1 h).1
  have hv:vs[off]?=some vs[off]:=zP (by omega)
  refine ⟨vs[off],?_,hr _ _ _ h hv⟩
  simp [part,iV ha,hv]
 ·cases h

theorem ST (s:zw) (i:Nat) (h:i < s.length):(⟨s.toArray⟩:ByteArray)[i]?=some (s.getD i 0):=by
 have h':i < (⟨s.toArray⟩:ByteArray).size:=by simpa [ByteArray.size] using h
 rw [getElem?_pos _ i h']
 simp [List.getD,zP h]
 rfl

theorem IA {t:TypeId} {ax ai:AV} {vx vi:Value} {f:fm} (h:(D5 P t ax ai).val=some f)
  (hx:Rv w U ρ ax vx) (hi:Rv w U ρ ai vi):∃ r x,f={ val:=r }∧(Instr.index t vx vi).run P w=.ok x w∧Rv w U ρ r x:=by
 unfold D5 at h
 split at h
 ·rename_i ik k
  cases hi
  split at h
  ·rename_i s hu
   simp [kJ] at h
   obtain ⟨⟨h0,h1⟩,rfl⟩:=h
   cases hx with
   | str _ hs=>
   have hlt:k.toNat < s.length:=by omega
   refine ⟨_,.int .u8 (s.getD k.toNat 0).toNat,rfl,?_,?_⟩
   ·simp [Instr.index,asIntOf,bn hu,h0,ST s _ hlt]
   ·rw [aP]
    refine .int _ _ ?_
    have:=(s[k.toNat]?.getD 0).toNat_lt
    simp [cV,IntKind.min,IntKind.max,IntKind.signed,IntKind.bits]
    omega
  ·rename_i len elem cs hu
   split at h
   ·rename_i sz hsz
    split at h
    ·rename_i r hp
     simp [kJ] at h
     obtain ⟨⟨h0,h1⟩,rfl⟩:=h
     cases hx with
     | agg _ vs hl hone hr=>
     obtain ⟨x,hx,hrx⟩:=y9 (w:=w) (U:=U) (ρ:=ρ) hp hl hone hr
     exact ⟨r,x,rfl,by simp [Instr.index,asIntOf,bn hu,h0,h1,bZ hsz,hx],hrx⟩
    ·simp at h
   ·simp at h
  ·simp at h
 ·simp at h

theorem CW (n:Nat) (hn:n≤zA):cV .i64 (n:Int):=by
 unfold zA at hn
 simp [cV,IntKind.min,IntKind.max,IntKind.signed,IntKind.bits]; omega

theorem Fd {e:Sh} {l:List (Sem e)} {v:Value} (hr:Rv w U ρ (.sl e l) v):∃ a c,v=.slice a l.length c∧l.length≤zA∧l.length≤c:=by
 cases hr with
 | sl0 _ a c=>exact ⟨a,c,rfl,by simp,by simp⟩
 | sl _ _ b o c vals hc hm hb hU hcell hrr=>exact ⟨_,_,rfl,hm,hc⟩

theorem A1 (s:zw):(⟨s.toArray⟩:ByteArray).size=s.length:=by simp [ByteArray.size]

theorem Oc {hp:Nat→AO} {t:TypeId} {ax:AV} {vx:Value} {ty:TypeId} {f:fm} (h:(Ob P hp t ax).val=some f) (hx:Rv w U ρ ax vx)
  (hob:∀ id∈ax.ids,bE w U ρ id (hp id)):
  ∃ r x,f={ val:=r }∧(Builtin.len_ #[t] ty #[vx]).run P w=.ok x w∧Rv w U ρ r x:=by
 unfold Ob at h
 split at h
 ·rename_i hu
  split at h
  ·rename_i s
   simp at h; subst h
   cases hx with
   | str _ hs=>exact ⟨_,.int .i64 s.length,rfl,by simp [Builtin.len_,bn hu,goInt,A1],.int _ _ (CW _ hs)⟩
  ·simp at h
 ·rename_i e0 hu
  split at h
  ·simp at h; subst h
   cases hx
   exact ⟨_,_,rfl,by simp [Builtin.len_,bn hu,goInt],.int _ _ (CW 0 (by simp))⟩
  ·rename_i e l
   simp at h; subst h
   obtain ⟨a,c,rfl,hm,_⟩:=Fd hx
   exact ⟨_,_,rfl,by simp [Builtin.len_,bn hu,goInt],.int _ _ (CW _ hm)⟩
  ·rename_i id
   have ho:=hob id (by simp [AV.ids])
   cases hx with
   | vec _ _ hv _=>
   split at h
   ·rename_i e l hcs
    rw [hcs] at ho
    obtain ⟨a,c',hr,hm,h3⟩:=ho
    rw [hr] at hv; cases hv
    simp at h; subst h
    exact ⟨_,_,rfl,by simp [Builtin.len_,bn hu,goInt],.int _ _ (CW _ hm)⟩
   ·rename_i e l hcs
    rw [hcs] at ho
    obtain ⟨v',hv',hrv⟩:=ho
    rw [hv] at hv'; cases hv'
    obtain ⟨a,c,rfl,hm,_⟩:=Fd hrv
    simp at h; subst h
    exact ⟨_,_,rfl,by simp [Builtin.len_,bn hu,goInt],.int _ _ (CW _ hm)⟩
   ·simp at h
  ·simp at h
 ·rename_i kt et hu
  split at h
  ·rename_i id
   have ho:=hob id (by simp [AV.ids])
   cases hx with
   | mp _ _ hv _=>
   split at h
   ·rename_i u es hcs
    rw [hcs] at ho
    obtain ⟨r,ents,clock,h1,h2,h3,h4,h5⟩:=ho
    rw [h1] at hv; cases hv
    simp at h
    obtain ⟨hlen,rfl⟩:=h
    have hl:ents.size=es.length:=by have:=congrArg List.length h4; simpa using this
    exact ⟨_,.int .i64 es.length,rfl,by simp [Builtin.len_,bn hu,goInt,lr h3,hl,Result.andThen],.int _ _ (CW _ (by unfold zA; omega))⟩
   ·simp at h
  ·simp at h
 ·simp at h

theorem N9 {d:Nat} {t:TypeId} {x y:AV} {r:Bool} {a b:Value} (h:Uq P t x y=some r) (ha:Rv w U ρ x a) (hb:Rv w U ρ y b):
  (Op.equalIn (d+1) t a b).run P w=.ok r w:=by
 unfold Uq at h
 split at h
 ·rename_i hu
  split at h
  ·rename_i hkk; subst hkk; cases h
   cases ha; cases hb
   exact run_equalIn_int w d t _ _ _ _ hu
  ·cases h
 ·rename_i hu
  cases h; cases ha; cases hb
  rw [run_equalIn_string w d t _ _ hu]
  simp
 all_goals first
  | (rename_i hu; cases h; cases ha; cases hb; exact run_equalIn_bool w d t _ _ hu)
  | cases h

theorem R6 {t:TypeId} {x y:AV} {r:Bool} (h:Uq P t x y=some r):Be P t=some false:=by
 unfold Uq at h
 split at h <;> simp_all [Be]

theorem Kf {d:Nat}:∀ (fs:List Field) (i:Nat) (xs ys:List AV) (r:Bool) (vx vy:Array Value),Bx P fs i xs ys=some r→
  (∀ (j:Nat) c,xs[j]?=some c→∃ v,vx[i+j]?=some v∧Rv w U ρ c v)→(∀ (j:Nat) c,ys[j]?=some c→∃ v,vy[i+j]?=some v∧Rv w U ρ c v)→
  (Op.eqFields (d+1) vx vy fs).run P w=.ok r w
 | [],i,[],[],r,vx,vy,h,_,_=>by
  simp [Bx] at h; subst h; simp [Op.eqFields]
 | f :: fs,i,a::xs,b::ys,r,vx,vy,h,hx,hy=>by
  simp only [Bx] at h
  split at h
  ·rename_i hc
   simp at hc
   obtain ⟨hn,ho⟩:=hc
   split at h
   ·rename_i r1 s1 h1 h2
    cases h
    obtain ⟨va,hva,hra⟩:=hx 0 a rfl
    obtain ⟨vb,hvb,hrb⟩:=hy 0 b rfl
    have hpart:∀ (vz:Array Value) (v:Value),vz[i+0]?=some v→(part f.type vz f.offset).run P w=.ok v w:=by
     intro vz v hv
     rw [vt] at hv
     simp [part,iV (R6 h1),ho,hv]
    have ih:=Kf (d:=d) fs (i+1) xs ys s1 vx vy h2 (fun j c hj=>by
      obtain ⟨v,hv,hr⟩:=hx (j+1) c hj
      exact ⟨v,by rw [show i+1+j=i+(j+1) by omega]; exact hv,hr⟩)
     (fun j c hj=>by
      obtain ⟨v,hv,hr⟩:=hy (j+1) c hj
      exact ⟨v,by rw [show i+1+j=i+(j+1) by omega]; exact hv,hr⟩)
    simp only [Op.eqFields,ne_eq,hn,not_false_eq_true,if_true,cC,hpart vx va hva,hpart vy vb hvb,kE,N9 h1 hra hrb,Sem.run_ite,mj,ih]
    cases r1 <;> simp
   ·cases h
  ·cases h
 | [],_,_::_,_,_,_,_,h,_,_=>by simp [Bx] at h
 | [],_,[],_::_,_,_,_,h,_,_=>by simp [Bx] at h
 | _::_,_,[],_,_,_,_,h,_,_=>by simp [Bx] at h
 | _::_,_,_::_,[],_,_,_,h,_,_=>by simp [Bx] at h

theorem It {t:TypeId} {x y:AV} {r:Bool} {a b:Value} (h:YA P t x y=some r) (ha:Rv w U ρ x a) (hb:Rv w U ρ y b)
  (hni:∀ k n k' n',x=.int k n→y=.int k' n'→False) (hns:∀ s s',x=.str s→y=.str s'→False):
  (Op.equal t a b).run P w=.ok r w∧(∀ op p q,(eqGuard op t p q a b).run P w=.ok () w)∧((∃ c d,a=.bool c∧b=.bool d)∨∃ c d,a=.agg c∧b=.agg d):=by
 unfold YA at h
 split at h
 ·rename_i a' b'
  cases ha with
  | agg _ vs hl h1 hr=>
  cases hb with
  | agg _ vs' hl' h1' hr'=>
  split at h
  ·rename_i fs hu
   split at h
   ·rename_i hc
    simp at hc
    obtain ⟨hs,hg⟩:=hc
    refine ⟨?_,fun op p q=>run_eqGuard_agg w op t p q _ _ hg,.inr ⟨_,_,rfl,rfl⟩⟩
    have hf:P.fieldsOf t=fs:=by simp [Program.fieldsOf,hu]
    show (Op.equalIn (9999+1) t _ _).run P w=_
    rw [run_equalIn_struct w 9999 t _ _ (by rw [hf]; exact hu) hs,hf]
    refine Kf (U:=U) (ρ:=ρ) (d:=9998) fs.toList 0 a' b' r _ _ h (fun j c hj=>?_) (fun j c hj=>?_)
    ·have hlt:j < vs.length:=by rw [← hl]; exact (cn.1 hj).1
     exact ⟨vs[j],by simp [zP hlt],hr j c _ hj (zP hlt)⟩
    ·have hlt:j < vs'.length:=by rw [← hl']; exact (cn.1 hj).1
     exact ⟨vs'[j],by simp [zP hlt],hr' j c _ hj (zP hlt)⟩
   ·cases h
  ·cases h
 ·have h':=h
  unfold Uq at h
  split at h
  ·exact absurd (hni _ _ _ _ rfl rfl) id
  ·exact absurd (hns _ _ rfl rfl) id
  all_goals first
   | (cases h; have h2:=N9 (d:=9999) h' ha hb; cases ha; cases hb; exact ⟨h2,fun op p q=>by cases op <;> simp [eqGuard],.inl ⟨_,_,rfl,rfl⟩⟩)
   | cases h

theorem RW {op:BinOp} {t:TypeId} {x y:AV} {a b:Value} {f:fm} (p q:Operand) (h:(W3 P op t x y).val=some f) (ha:Rv w U ρ x a) (hb:Rv w U ρ y b)
  (hni:∀ k n k' n',x=.int k n→y=.int k' n'→False) (hns:∀ s s',x=.str s→y=.str s'→False):
  ∃ r z,f={ val:=r }∧(do eqGuard op t p q a b; binOp op t a b:Go.Sem Value).run P w=.ok z w∧Rv w U ρ r z:=by
 unfold W3 at h
 split at h
 ·split at h
  ·rename_i r hr
   simp at h; subst h
   obtain ⟨h1,h2,h3⟩:=It hr ha hb hni hns
   refine ⟨_,.bool r,rfl,?_,.bool r⟩
   rw [cC,h2]
   rcases h3 with ⟨c,d,rfl,rfl⟩ | ⟨c,d,rfl,rfl⟩ <;> simp [binOp,h1]
  ·simp at h
 ·split at h
  ·rename_i r hr
   simp at h; subst h
   obtain ⟨h1,h2,h3⟩:=It hr ha hb hni hns
   refine ⟨_,.bool (!r),rfl,?_,.bool (!r)⟩
   rw [cC,h2]
   rcases h3 with ⟨c,d,rfl,rfl⟩ | ⟨c,d,rfl,rfl⟩ <;> simp [binOp,h1]
  ·simp at h
 ·simp at h

theorem Ll {k:IntKind} {a b:Int} (ha:cV k a) (hb:cV k b) (h0:b≠0):k.wrap (a.tmod b)=a.tmod b:=by
 have h1:=Int.tmod_lt_of_pos
 have:(a.tmod b).natAbs < b.natAbs:=by
  rw [Int.natAbs_tmod]
  exact Nat.mod_lt _ (by omega)
 have hs:0≤a→0≤a.tmod b:=fun h=>Int.tmod_nonneg b h
 cases k <;> simp [cV,IntKind.min,IntKind.max,IntKind.signed,IntKind.bits] at ha hb <;> simp [IntKind.wrap,IntKind.signed,IntKind.bits] <;> (try split) <;> omega

theorem RX {op:BinOp} {t:TypeId} {k:IntKind} {a b:Int} {f:fm} (p q:Operand) (h:(W4 op k a b).val=some f) (ha:cV k a) (hb:cV k b):
  ∃ r z,f={ val:=r }∧(do eqGuard op t p q (.int k a) (.int k b); binOp op t (.int k a) (.int k b):Go.Sem Value).run P w=.ok z w∧Rv w U ρ r z:=by
 have hg:∀ op,(eqGuard op t p q (.int k a) (.int k b)).run P w=.ok () w:=by intro op; cases op <;> simp [eqGuard]
 unfold W4 at h
 split at h
 ·simp at h; subst h; exact ⟨_,_,rfl,by rw [cC,hg]; simp [binOp,Op.intArith],.int _ _ (mW _ _)⟩
 ·simp at h; subst h; exact ⟨_,_,rfl,by rw [cC,hg]; simp [binOp,Op.intArith],.int _ _ (mW _ _)⟩
 ·simp at h; subst h; exact ⟨_,_,rfl,by rw [cC,hg]; simp [binOp,Op.intArith],.int _ _ (mW _ _)⟩
 ·simp at h; obtain ⟨h0,rfl⟩:=h; exact ⟨_,_,rfl,by rw [cC,hg]; simp [binOp,Op.intDiv,h0],.int _ _ (mW _ _)⟩
 ·simp at h; obtain ⟨h0,rfl⟩:=h
  refine ⟨_,.int k (a.tmod b),rfl,by rw [cC,hg]; simp [binOp,Op.intDiv,h0],?_⟩
  rw [Ll ha hb h0]
  exact .int _ _ (by rw [← Ll ha hb h0]; exact mW _ _)
 all_goals first
  | (simp at h; subst h; exact ⟨_,_,rfl,by rw [cC,hg]; simp [binOp,Op.intCmp],.bool _⟩)
  | simp at h

theorem JB (a b:zw):(⟨a.toArray⟩:ByteArray)++⟨b.toArray⟩=⟨(a++b).toArray⟩:=by
 apply ByteArray.ext
 simp

theorem RY {op:BinOp} {t:TypeId} {a b:zw} {f:fm} (p q:Operand) (h:(W5 op a b).val=some f):
  ∃ r z,f={ val:=r }∧(do eqGuard op t p q (.string ⟨a.toArray⟩) (.string ⟨b.toArray⟩); binOp op t (.string ⟨a.toArray⟩) (.string ⟨b.toArray⟩):Go.Sem Value).run P w=.ok z w∧Rv w U ρ r z:=by
 have hg:∀ op,(eqGuard op t p q (.string ⟨a.toArray⟩) (.string ⟨b.toArray⟩)).run P w=.ok () w:=by intro op; cases op <;> simp [eqGuard]
 unfold W5 at h
 split at h
 ·simp at h; obtain ⟨h0,rfl⟩:=h
  refine ⟨_,.string ⟨(a++b).toArray⟩,rfl,?_,.str _ (by unfold zA; simp; omega)⟩
  rw [cC,hg]
  simp [binOp,Op.stringOp,A1,JB]
  omega
 all_goals first
  | (simp at h; subst h; exact ⟨_,_,rfl,by rw [cC,hg]; simp [binOp,Op.stringOp],.bool _⟩)
  | simp at h

theorem RV {op:BinOp} {t:TypeId} {x y:AV} {a b:Value} {f:fm} (p q:Operand) (h:(W2 P op t x y).val=some f) (ha:Rv w U ρ x a) (hb:Rv w U ρ y b):
  ∃ r z,f={ val:=r }∧(do eqGuard op t p q a b; binOp op t a b:Go.Sem Value).run P w=.ok z w∧Rv w U ρ r z:=by
 unfold W2 at h
 split at h
 ·split at h
  ·rename_i hk; subst hk
   cases ha with
   | int _ _ h1=>
   cases hb with
   | int _ _ h2=>exact RX p q h h1 h2
  ·simp at h
 ·cases ha; cases hb
  exact RY p q h
 ·rename_i hni hns
  exact RW p q h ha hb (fun k n k' n' e1 e2=>hni k n k' n' e1 e2) (fun s s' e1 e2=>hns s s' e1 e2)

def k9 (vs:List Value) (off:Nat):List Value→List Value
 | []=>vs
 | v::r=>k9 (vs.set off v) (off+1) r

theorem fi:∀ (r vs:List Value) (off:Nat),(k9 vs off r).length=vs.length
 | [],_,_=>rfl
 | v::r,vs,off=>by simp [k9,fi r]

theorem ng:∀ (r cs:List AV) (off:Nat),(setCells cs off r).length=cs.length
 | [],_,_=>rfl
 | v::r,cs,off=>by simp [setCells,ng r]

theorem xi:∀ (r:List AV) (vr:List Value) (cs:List AV) (vs:List Value) (off:Nat),dh w U ρ cs vs→dh w U ρ r vr→dh w U ρ (setCells cs off r) (k9 vs off vr)
 | [],[],cs,vs,off,h,_=>h
 | [],_::_,_,_,_,_,h=>by have:=h.len; simp at this
 | _::_,[],_,_,_,_,h=>by have:=h.len; simp at this
 | c::r,v::vr,cs,vs,off,h,h'=>by
  refine xi r vr _ _ (off+1) ⟨by simp [h.len],fun j c' v' hc hv=>?_⟩ ⟨by have:=h'.len; simpa using this,fun j c' v' hc hv=>h'.rv (j+1) c' v' hc hv⟩
  rw [nC] at hc hv
  by_cases hj:off=j
  ·simp only [hj,if_true] at hc hv
   split at hc
   ·rename_i hlt
    rw [if_pos (by rw [← h.len]; exact hlt)] at hv
    cases hc; cases hv
    exact h'.rv 0 _ _ rfl rfl
   ·cases hc
  ·rw [if_neg hj] at hc hv
   exact h.rv j c' v' hc hv

theorem AZ:∀ (vr vs:List Value) (off:Nat),(∀ v∈vs,v.oneCell'=true)→(∀ v∈vr,v.oneCell'=true)→∀ v∈k9 vs off vr,v.oneCell'=true
 | [],_,_,h,_=>h
 | v::vr,vs,off,h,h'=>AZ vr _ _ (fun x hx=>by
   rcases JW hx with h1 | h1
   ·exact h _ h1
   ·rw [h1]; exact h' _ (by simp)) (fun x hx=>h' x (by simp [hx]))

theorem yB (cs:List Value):∀ (l:List Value) (k:Nat) (off:Nat),(l.zipIdx k).foldl (fun (cs:Array Value) (p:Value×Nat)=>cs.setIfInBounds (off+p.2) p.1) cs.toArray=(k9 cs (off+k) l).toArray
 | [],_,_=>rfl
 | v::l,k,off=>by
  simp only [List.zipIdx_cons,List.foldl_cons,k9]
  have:=yB (cs.set (off+k) v) l (k+1) off
  rw [show off+k+1=off+(k+1) by omega,← this]
  congr 1
  simp

theorem yv {place:Nat→Option (Nat×Nat)}:∀ (parts:List (Nat×AV)) (vparts:List (Nat×Value)) (cs:List AV) (vs:List Value) (r:List AV),
  CJ place cs parts=some r→dh w U ρ cs vs→(∀ v∈vs,v.oneCell'=true)→parts.map (·.1)=vparts.map (·.1)→dh w U ρ (parts.map (·.2)) (vparts.map (·.2))→
  ∃ vr,Instr.fill place vs.toArray vparts=some vr∧dh w U ρ r vr.toList∧∀ v∈vr.toList,v.oneCell'=true
 | [],[],cs,vs,r,h,hr,h1,_,_=>by
  simp [CJ] at h; subst h
  exact ⟨vs.toArray,by simp [Instr.fill],by simpa using hr,by simpa using h1⟩
 | [],_::_,_,_,_,_,_,_,h,_=>by simp at h
 | _::_,[],_,_,_,_,_,_,h,_=>by simp at h
 | (i,c)::parts,(i',v)::vparts,cs,vs,r,h,hr,h1,hi,hp=>by
  simp at hi
  obtain ⟨rfl,hi⟩:=hi
  simp only [CJ] at h
  split at h
  ·rename_i off size ccs hpl hcc
   split at h
   ·rename_i hsz
    obtain ⟨hs1,hs2⟩:=hsz
    obtain ⟨hcv,hcv1⟩:=eY (w:=w) (U:=U) (ρ:=ρ) hcc (hp.rv 0 c v rfl rfl)
    obtain ⟨vr,e1,e2,e3⟩:=yv parts vparts _ (k9 vs off v.cells.toList) r h (xi _ _ _ _ _ hr hcv) (AZ _ _ _ h1 hcv1) hi
     ⟨by have:=hp.len; simpa using this,fun j c' v' hc hv=>hp.rv (j+1) c' v' hc hv⟩
    refine ⟨vr,?_,e2,e3⟩
    have hlen:=hcv.len
    simp only [Array.length_toList] at hlen
    have hlen2:=hr.len
    simp only [Instr.fill,hpl]
    rw [if_neg (by simp; omega)]
    have:=yB vs v.cells.toList 0 off
    rw [vt] at this
    rw [← e1,← this]
    congr 1
    rw [← Array.foldl_toList,Array.toList_zipIdx]
   ·cases h
  ·cases h

theorem Aa:∀ (fs:List Field) (ps:List (Nat×Nat)),sJ P fs=some ps→(fs.mapM fun f=>do pure (f.offset,← Go.sizeOf f.type):Go.Sem (List (Nat×Nat))).run P w=.ok ps w
 | [],ps,h=>by simp [sJ] at h; subst h; simp
 | f::r,ps,h=>by
  simp only [sJ] at h
  split at h
  ·rename_i n l hn hl
   cases h
   have:=Aa r l hl
   simp only [List.mapM_cons,cC,bZ hn,kE,mj,this]
  ·cases h

theorem LL {t:TypeId} {parts:List (Nat×AV)} {vparts:List (Nat×Value)} {r:AV} (h:If P t parts=some r)
  (hi:parts.map (·.1)=vparts.map (·.1)) (hp:dh w U ρ (parts.map (·.2)) (vparts.map (·.2))):
  ∃ x,(Instr.build t vparts.toArray).run P w=.ok x w∧Rv w U ρ r x:=by
 have zeroOk:∀ zero,ni P t=some (.agg zero)→∃ z:Value,(zeroValue t).run P w=.ok z w∧dh w U ρ zero z.cells.toList∧∀ v∈z.cells.toList,v.oneCell'=true:=by
  intro zero hz
  unfold ni at hz
  split at hz
  ·rename_i i hinfo
   simp only [cW] at hz
   obtain ⟨z,hz1,hz2⟩:=hz
   have hr:=mi (w:=w) (U:=U) (ρ:=ρ) z
   rw [hz2] at hr
   have:=eY (w:=w) (U:=U) (ρ:=ρ) (av:=.agg zero) rfl hr
   exact ⟨z,by simp [zeroValue,typeInfo,hinfo,hz1],this.1,this.2⟩
  ·cases hz
 unfold If at h
 split at h
 ·rename_i zero fs hz hu
  split at h
  ·rename_i ps hps
   simp only [cW] at h
   obtain ⟨r',h,rfl⟩:=h
   obtain ⟨z,hz1,hz2,hz3⟩:=zeroOk zero hz
   obtain ⟨vr,e1,e2,e3⟩:=yv parts vparts _ _ _ h hz2 hz3 hi hp
   refine ⟨.agg vr,?_,?_⟩
   ·simp only [JY] at e1
    have hm:=Aa (w:=w) fs.toList ps hps
    have hplaces:(fs.mapM fun f=>do pure (f.offset,← Go.sizeOf f.type):Go.Sem (Array (Nat×Nat))).run P w=.ok ps.toArray w:=by
     rw [Array.mapM_eq_mapM_toList,Sem.run_map,hm]
     rfl
    have e1':Instr.fill (fun x=>ps.toArray[x]?) z.cells vparts=some vr:=by simpa using e1
    simp only [Instr.build,cC,hz1,kE,bn hu,hplaces,e1',mj]
   ·have:=Rv.agg (w:=w) (U:=U) (ρ:=ρ) r' vr.toList e2.len e3 e2.rv
    simpa using this
  ·cases h
 ·rename_i zero len elem hz hu
  split at h
  ·rename_i n hn
   simp only [cW] at h
   obtain ⟨r',h,rfl⟩:=h
   obtain ⟨z,hz1,hz2,hz3⟩:=zeroOk zero hz
   obtain ⟨vr,e1,e2,e3⟩:=yv parts vparts _ _ _ h hz2 hz3 hi hp
   refine ⟨.agg vr,?_,?_⟩
   ·simp only [JY] at e1
    simp [Instr.build,hz1,bn hu,bZ hn,e1]
   ·have:=Rv.agg (w:=w) (U:=U) (ρ:=ρ) r' vr.toList e2.len e3 e2.rv
    simpa using this
  ·cases h
 ·cases h

end
end Cad
