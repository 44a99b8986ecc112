/- The abstract machine: definitions alone. What abstract values say of the model's values, and what stays as memory grows. -/
import GoSem.Step
import Derived.KernelRfl
import Derived.WalkKit
import Derived.Deep.AppendSrc
import Derived.Laws.IdiomCopy
import Derived.MapKept
import Derived.Laws.StructEq
namespace Cad
open Go

abbrev zo:=List UInt8
abbrev Ct:=@List.eq_nil_of_length_eq_zero
abbrev j5:=@Array.getD_eq_getD_getElem?
abbrev ua:=@Array.getElem?_eq_some_iff
abbrev aJ:=@List.getD_eq_getElem?_getD
abbrev lc:=@List.getElem?_append_right
abbrev gZ:=@Array.getElem?_eq_getElem
abbrev xv:=@Classical.byContradiction
abbrev dw:=@List.drop_eq_getElem_cons
abbrev j6:=@List.getElem?_append_left
abbrev bM:=@List.getElem?_eq_some_iff
abbrev mr:=@List.mem_or_eq_of_mem_set
abbrev rT:=@Bool.eq_false_or_eq_true
abbrev zJ:=@List.getElem?_eq_getElem
abbrev eS:=@Option.bind_eq_some_iff
abbrev lP:=@List.getElem?_set_self
abbrev kl:=@MapKept.run_getObj_map
abbrev x4:=@MapKept.run_setObj_map
abbrev dI:=@Option.map_eq_some_iff
abbrev Cu:=@World.frozen?_of_block
abbrev x5:=@Array.getElem?_modify
abbrev rU:=@Array.getElem?_toList
abbrev t8:=@List.contains_iff_mem
abbrev dd:=@List.getElem?_eq_none
abbrev jG:=@List.getElem?_toArray
abbrev Gv:=@Array.toArray_toList
abbrev pj:=@List.getElem?_set_ne
abbrev ms:=@List.mem_cons_of_mem
abbrev iE:=@List.mem_of_getElem?
abbrev Cv:=@MapKept.run_checkKey
abbrev cN:=@Nat.mul_le_mul_right
abbrev x6:=@List.getD_cons_succ
abbrev x7:=@List.getElem?_range
abbrev Cw:=@MapKept.run_findKey
abbrev jH:=@beq_eq_false_iff_ne
abbrev zH:=@Bool.false_eq_true
abbrev jI:=@List.getElem?_drop
abbrev uc:=@List.getElem?_take
abbrev pk:=@List.length_append
abbrev ud:=@List.mem_cons_self
abbrev bO:=@List.mem_singleton
abbrev lQ:=@Nat.lt_of_lt_of_le
abbrev fa:=@Option.isSome_some
abbrev rV:=@Function.comp_def
abbrev aT:=@Int.toNat_natCast
abbrev x8:=@List.ext_getElem?
abbrev de:=@List.getElem?_map
abbrev jJ:=@List.getElem?_set
abbrev pm:=@Nat.succ_le_of_lt
abbrev ao:=@Option.some.injEq
abbrev jj:=@Result.andThen_ok
abbrev jK:=@bne_self_eq_false
abbrev ae:=@decide_eq_true_eq
abbrev fb:=@of_decide_eq_true
abbrev aL:=@Bool.and_eq_true
abbrev ue:=@IntKind.wrap_i64
abbrev cX:=@List.all_eq_true
abbrev cL:=@List.drop_length
abbrev dg:=@List.getElem_mem
abbrev oe:=@List.length_cons
abbrev rW:=@List.length_take
abbrev x9:=@List.lookup_cons
abbrev Cx:=@List.mem_flatMap
abbrev uf:=@MapKept.heap_set
abbrev bP:=@Option.getD_some
abbrev rX:=@Bool.or_eq_true
abbrev jL:=@List.append_nil
abbrev ye:=@List.length_map
abbrev jM:=@List.length_set
abbrev bn:=@List.mem_append
abbrev yf:=@List.nil_append
abbrev ug:=@Option.map_some
abbrev cu:=@decide_eq_false
abbrev pn:=@Bool.not_false
abbrev lR:=@Comes.of_steps
abbrev uh:=@List.mem_range
abbrev jN:=@Nat.mul_le_mul
abbrev ay:=@decide_eq_true
abbrev aW:=@run_underlying
abbrev og:=@Bool.and_self
abbrev fG:=@Bool.not_true
abbrev jO:=@List.map_cons
abbrev cY:=@List.mem_cons
abbrev bC:=@Prod.mk.injEq
abbrev rY:=@List.map_map
abbrev ui:=@List.map_nil
abbrev fe:=@List.mem_map
abbrev po:=@Nat.add_comm
abbrev oh:=@Nat.add_zero
abbrev cv:=@Nat.le_trans
abbrev ee:=@Nat.succ_mul
abbrev ez:=@Nat.zero_add
abbrev cZ:=@Sem.run_bind
abbrev ol:=@Sem.run_pure
abbrev lS:=@Nat.add_mul
abbrev bd:=@Nat.le_refl
abbrev aV:=@Nat.zero_le
abbrev km:=@Array.ext'
abbrev eT:=@beq_iff_eq
abbrev bQ:=@cond_false
abbrev bR:=@cond_true
abbrev dM:=@eq_of_beq

inductive ze where
 | mk (op:zo) (v:Int×Int×zo) (s:zo) (l:List ze)

def ze.op:ze→zo
 | .mk o _ _ _=>o
def ze.v:ze→Int×Int×zo
 | .mk _ v _ _=>v
def ze.s:ze→zo
 | .mk _ _ s _=>s
def ze.l:ze→List ze
 | .mk _ _ _ l=>l

inductive Sh where
 | unit
 | bool
 | int (k:IntKind)
 | str
 | sl (e:Sh)
 | pr (a b:Sh)
 | expr
 deriving DecidableEq

@[reducible] def Sem:Sh→Type
 | .unit=>Unit
 | .bool=>Bool
 | .int _=>Int
 | .str=>zo
 | .sl e=>List (Sem e)
 | .pr a b=>Sem a×Sem b
 | .expr=>ze

def zj:(s:Sh)→Sem s
 | .unit=>()
 | .bool=>false
 | .int _=>(0:Int)
 | .str=>([]:zo)
 | .sl e=>([]:List (Sem e))
 | .pr a b=>(zj a,zj b)
 | .expr=>ze.mk [] (0,0,[]) [] []

def Sh.size:Sh→Nat
 | .unit=>0
 | .pr a b=>a.size+b.size
 | .expr=>6
 | _=>1

inductive AV where
 | any
 | kb (b:Bool)
 | bool (b:Bool)
 | int (k:IntKind) (n:Int)
 | str (s:zo)
 | nils
 | sl (e:Sh) (l:List (Sem e))
 | vec (id:Nat)
 | ptr (id off:Nat)
 | vptr (id sz i off:Nat)
 | eptr (cells:List AV) (off:Nat)
 | nilp
 | agg (cells:List AV)
 | tup (vs:List AV)
 | clo (fn:Fn) (first caps:List AV)
 | nilf
 | mp (id:Nat)
 | ifc (vR:Bool)
 | tab (k:IntKind) (zs:List Int)
 | gint
 | vsuf (id sz i:Nat)

def zn:(s:Sh)→Sem s→List AV
 | .unit,_=>[]
 | .bool,b=>[.bool b]
 | .int k,n=>[.int k n]
 | .str,s=>[.str s]
 | .sl e,l=>[.sl e l]
 | .pr a b,x=>zn a x.1++zn b x.2
 | .expr,e=>[.str e.op,.int .i64 e.v.1,.int .i64 e.v.2.1,.str e.v.2.2,.str e.s,.sl .expr e.l]

inductive AO where
 | dead
 | box (cells:List AV)
 | vec (e:Sh) (l:List (Sem e))
 | frz (e:Sh) (l:List (Sem e))
 | fmap (es:List (zo×AV))
 | vmap (u:Bool) (es:List ((Int×Int×zo)×Int))
 | hol (e:Sh) (l:List (List (Sem e))) (i m:Nat)

inductive Tr (α:Type) where
 | err
 | chk (c:Bool) (t:Tr α)
 | br (c:Bool) (t f:Tr α)
 | ok (a:α)

def Tr.val {α:Type}:Tr α→Option α
 | .err=>none
 | .chk c t=>if c then t.val else none
 | .br c t f=>if c then t.val else f.val
 | .ok a=>some a

def Tr.bind {α β:Type}:Tr α→(α→Tr β)→Tr β
 | .err,_=>.err
 | .chk c t,k=>.chk c (t.bind k)
 | .br c t f,k=>.br c (t.bind k) (f.bind k)
 | .ok a,k=>k a

structure ew where
 val:AV
 wr:List (Nat×AO):=[]
 nw:List AO:=[]

abbrev zF:=List AV→(Nat→AO)→Nat→Tr ew

structure bt where
 P:Program
 sh:TypeId→Option Sh
 gl:Nat→AV
 F:FuncId→Option zF
 own:Bool:=false
 nest:Bool:=false

structure St where
 tmps:List AV
 heap:List AO

def St.hp (st:St) (id:Nat):AO:=st.heap.getD id .dead

def xw (hp:Nat→AO) (e:Sh):AV→Option (List (Sem e))
 | .nils=>some []
 | .sl e' l=>if h:e'=e then some (h▸l) else none
 | .vec id=>match hp id with
  | .vec e' l=>if h:e'=e then some (h▸l) else none
  | .frz e' l=>if h:e'=e then some (h▸l) else none
  | _=>none
 | _=>none

def Dn (hp:Nat→AO):List AV→Option (ze×List AV)
 | .str op::.int .i64 k::.int .i64 i::.str vs::.str s::c::r=>match xw hp .expr c with
  | some l=>some (ze.mk op (k,i,vs) s l,r)
  | none=>none
 | _=>none

def cm (hp:Nat→AO):(s:Sh)→List AV→Option (Sem s×List AV)
 | .unit,cs=>some ((),cs)
 | .bool,.bool b::r=>some (b,r)
 | .bool,.kb b::r=>some (b,r)
 | .int k,.int k' n::r=>if k'=k then some (n,r) else none
 | .str,.str s::r=>some (s,r)
 | .sl e,c::r=>match xw hp e c with
  | some l=>some (l,r)
  | none=>none
 | .pr a b,cs=>match cm hp a cs with
  | some (x,r)=>match cm hp b r with
   | some (y,r')=>some ((x,y),r')
   | none=>none
  | none=>none
 | .expr,cs=>Dn hp cs
 | _,_=>none

def cellsOf:AV→Option (List AV)
 | .any=>none
 | .tup _=>none
 | .vsuf _ _ _=>none
 | .agg cs=>some cs
 | v=>some [v]

def Sh.isAgg:Sh→Bool
 | .pr _ _ | .expr | .unit=>true
 | _=>false

def AV.isAgg:AV→Bool
 | .agg _=>true
 | _=>false

def rZ (hp:Nat→AO) (s:Sh) (v:AV):Option (Sem s):=
 if s.isAgg==v.isAgg then match cellsOf v with
  | some cs=>match cm hp s cs with
   | some (x,[])=>some x
   | _=>none
  | none=>none
 else none

def zz (s:Sh) (x:Sem s):AV:=
 match s.isAgg with
 | true=>.agg (zn s x)
 | false=>(zn s x).headD .any

def Fh (k:IntKind) (n:Int):Bool:=match k with
 | .i8=>decide (-128≤n)&&decide (n≤127)
 | .i16=>decide (-32768≤n)&&decide (n≤32767)
 | .i32=>decide (-2147483648≤n)&&decide (n≤2147483647)
 | .i64=>decide (-9223372036854775808≤n)&&decide (n≤9223372036854775807)
 | .u8=>decide (0≤n)&&decide (n≤255)
 | .u16=>decide (0≤n)&&decide (n≤65535)
 | .u32=>decide (0≤n)&&decide (n≤4294967295)
 | .u64=>decide (0≤n)&&decide (n≤18446744073709551615)

def Cp:Value→AV
 | .bool b=>.kb b
 | .int k n=>if Fh k n then .int k n else .any
 | .string s=>if s.data.toList.length≤1000000 then .str s.data.toList else .any
 | .slice none 0 0=>.nils
 | .pointer none=>.nilp
 | .nilFunc=>.nilf
 | .nilIface=>.ifc true
 | _=>.any

def ze3:Value→Bool
 | .agg _ | .tuple _=>false
 | _=>true

def t7:Value→AV
 | .agg cs=>if cs.toList.all ze3 then .agg (cs.toList.map Cp) else .any
 | v=>Cp v

def nD (c:Bool):AV→AV→Option AV
 | .bool a,.bool b=>some (.bool (bif c then a else b))
 | .bool a,.kb b=>some (.bool (bif c then a else b))
 | .kb a,.bool b=>some (.bool (bif c then a else b))
 | .kb a,.kb b=>some (.bool (bif c then a else b))
 | .int k a,.int k' b=>if k=k' then some (.int k (bif c then a else b)) else none
 | .str a,.str b=>some (.str (bif c then a else b))
 | _,_=>none

def dL (P:Program) (t:TypeId):Option Nat:=(P.info? t).map (·.size)
def oH (P:Program) (t:TypeId):Option AV:=match P.info? t with
 | some i=>i.zero.map t7
 | none=>none
def w7 (P:Program) (t:TypeId):Option Bool:=match P.underlying t with
 | some (.struct _) | some (.array _ _)=>some true
 | some _=>some false
 | none=>none

def N8 (P:Program) (t:TypeId):Option (List AV):=match P.info? t with
 | some i=>match i.zero with
  | some (.map none)=>some [.any]
  | some z=>cellsOf (t7 z)
  | none=>none
 | none=>none

def mN (P:Program) (t:TypeId) (cs:List AV) (off:Nat):Option AV:=
 match w7 P t,dL P t with
 | some true,some n=>if off+n≤cs.length then some (.agg ((cs.drop off).take n)) else none
 | some false,_=>cs[off]?
 | _,_=>none

def setCells (cs:List AV) (off:Nat):List AV→List AV
 | []=>cs
 | v::r=>setCells (cs.set off v) (off+1) r

def ret (v:AV):Tr ew:=.ok { val:=v }
def wH:Option AV→Tr ew
 | some v=>ret v
 | none=>.err

def te (P:Program) (t:TypeId) (f:Nat):Option Field:=match P.underlying t with
 | some (.struct fs)=>fs[f]?
 | _=>none

def zI (n:Int) (len:Nat):Bool:=decide (0≤n)&&decide (n < len)

def bw:AV→List Nat
 | .vec id=>[id]
 | _=>[]

def sW:AO→AO
 | .vec e l=>.frz e l
 | o=>o

def kG:AO→Bool
 | .vec _ _ | .frz _ _=>true
 | _=>false

def ed (hp:Nat→AO) (ids:List Nat):List (Nat×AO):=ids.map fun id=>(id,sW (hp id))

def Sw (P:Program) (t:TypeId) (x y:AV):Option Bool:=
 match P.underlying t,x,y with
 | some (.int _),.int k a,.int k' b=>if k=k' then some (a==b) else none
 | some .string,.str a,.str b=>some (a==b)
 | some .bool,.bool a,.bool b=>some (a==b)
 | some .bool,.bool a,.kb b=>some (a==b)
 | some .bool,.kb a,.bool b=>some (a==b)
 | some .bool,.kb a,.kb b=>some (a==b)
 | _,_,_=>none

def xD (P:Program):List Field→Nat→List AV→List AV→Option Bool
 | [],_,[],[]=>some true
 | f::fs,i,a::xs,b::ys=>if f.name != "_" && f.offset==i then match Sw P f.type a b,xD P fs (i+1) xs ys with
   | some r,some s=>some (r&&s)
   | _,_=>none
  else none
 | _,_,_,_=>none

def Yf (P:Program) (t:TypeId) (x y:AV):Option Bool:=
 match x,y with
 | .agg a,.agg b=>match P.underlying t with
  | some (.struct fs)=>if !P.stoodInHeld t && !P.eqGuardType P.depth t then xD P fs.toList 0 a b else none
  | _=>none
 | x,y=>Sw P t x y

def Vy (op:BinOp) (k:IntKind) (a b:Int):Tr ew:=
 match op with
 | .add=>ret (.int k (k.wrap (a+b)))
 | .sub=>ret (.int k (k.wrap (a - b)))
 | .mul=>ret (.int k (k.wrap (a * b)))
 | .quo=>.chk (b != 0) (ret (.int k (k.wrap (a.tdiv b))))
 | .rem=>.chk (b != 0) (ret (.int k (k.wrap (a.tmod b))))
 | .shr=>.chk (b==1) (ret (.int k (a / 2)))
 | .eql=>ret (.bool (a==b))
 | .neq=>ret (.bool (a != b))
 | .lss=>ret (.bool (decide (a < b)))
 | .leq=>ret (.bool (decide (a≤b)))
 | .gtr=>ret (.bool (decide (a > b)))
 | .geq=>ret (.bool (decide (a ≥ b)))
 | _=>.err

def Vz (op:BinOp) (a b:zo):Tr ew:=
 match op with
 | .add=>.chk (decide (a.length+b.length≤1099511627776)) (ret (.str (a++b)))
 | .eql=>ret (.bool (a==b))
 | .neq=>ret (.bool (!(a==b)))
 | .lss=>ret (.bool (Op.bytesLess a b))
 | .leq=>ret (.bool (Op.bytesLess a b||a==b))
 | .gtr=>ret (.bool (!(Op.bytesLess a b||a==b)))
 | .geq=>ret (.bool (!Op.bytesLess a b))
 | _=>.err

def Vx (P:Program) (op:BinOp) (t:TypeId) (x y:AV):Tr ew:=
 match op with
 | .eql=>match Yf P t x y with
  | some r=>ret (.bool r)
  | none=>.err
 | .neq=>match Yf P t x y with
  | some r=>ret (.bool (!r))
  | none=>.err
 | _=>.err

def Vw (P:Program) (op:BinOp) (t:TypeId) (x y:AV):Tr ew:=
 match x,y with
 | .int k a,.int k' b=>if k=k' then Vy op k a b else .err
 | .str a,.str b=>Vz op a b
 | x,y=>Vx P op t x y

def y0 (place:Nat→Option (Nat×Nat)) (cells:List AV):List (Nat×AV)→Option (List AV)
 | []=>some cells
 | (i,v)::rest=>match place i,cellsOf v with
  | some (off,size),some cs=>if cs.length=size∧off+cs.length≤cells.length then y0 place (setCells cells off cs) rest else none
  | _,_=>none

def p7 (P:Program):List Field→Option (List (Nat×Nat))
 | []=>some []
 | f::r=>match dL P f.type,p7 P r with
  | some n,some l=>some ((f.offset,n)::l)
  | _,_=>none

def Ey (P:Program) (t:TypeId) (parts:List (Nat×AV)):Option AV:=
 match oH P t,P.underlying t with
 | some (.agg zero),some (.struct fs)=>
  match p7 P fs.toList with
  | some ps=>(y0 (fun i=>ps[i]?) zero parts).map .agg
  | none=>none
 | some (.agg zero),some (.array _ elem)=>match dL P elem with
  | some n=>(y0 (fun i=>some (i * n,n)) zero parts).map .agg
  | none=>none
 | _,_=>none

def qP (hp:Nat→AO) (e:Sh):List AV→Option (List (Sem e))
 | []=>some []
 | v::r=>match rZ hp e v,qP hp e r with
  | some x,some l=>some (x::l)
  | _,_=>none

def pQ:Nat→List (Nat×AV)→Bool
 | _,[]=>true
 | n,(i,_)::r=>i==n&&pQ (n+1) r

def Bd (P:Program) (hp:Nat→AO) (t:TypeId):AV→Tr ew
 | .ptr id off=>match hp id with
  | .box cs=>wH (mN P t cs off)
  | _=>.err
 | .eptr cs off=>wH (mN P t cs off)
 | .vptr id sz i off=>match hp id with
  | .vec e l=>if e.size=sz then .chk (decide (i < l.length)) (wH (mN P t (zn e (l.getD i (zj e))) off)) else .err
  | .hol _ _ j m=>if sz=1 then .chk (decide (i=j)) (wH (mN P t [.vec m] off)) else .err
  | _=>.err
 | _=>.err

def pM (P:Program) (hp:Nat→AO) (t:TypeId) (a x:AV):Tr ew:=
 match cellsOf x,dL P t with
 | some vs,some sz=>if vs.length=sz then match a with
   | .ptr id off=>match hp id with
    | .box cs=>if off+sz≤cs.length then .ok { val:=.tup [],wr:=[(id,.box (setCells cs off vs))] } else .err
    | _=>.err
   | .vptr id sz' i off=>match hp id with
    | .vec e l=>if e.size=sz'∧off+sz≤sz'∧(vs.flatMap bw).all (fun j=>kG (hp j)&&j != id) then match cm hp e (setCells (zn e (l.getD i (zj e))) off vs) with
      | some (x,[])=>.chk (decide (i < l.length)) (.ok { val:=.tup [],wr:=(id,.vec e (l.set i x))::ed hp (vs.flatMap bw) })
      | _=>.err
     else .err
    | _=>.err
   | _=>.err
  else .err
 | _,_=>.err

def vI (P:Program) (hp:Nat→AO) (t:TypeId) (a x:AV):Tr ew:=
 match a,x with
 | .vptr id sz i off,.vec m=>match hp id,hp m with
  | .vec (.sl e) l,.vec e' _=>if sz=1∧off=0∧e'=e∧m≠id∧dL P t=some 1 then .chk (decide (i < l.length)) (.ok { val:=.tup [],wr:=[(id,.hol e l i m)] }) else .err
  | _,_=>pM P hp t a x
 | _,_=>pM P hp t a x

def Bb (P:Program) (t:TypeId) (f:Nat) (x:AV):Tr ew:=
 match te P t f with
 | some fd=>match dL P fd.type with
  | some (_+1)=>match x with
   | .ptr id off=>ret (.ptr id (off+fd.offset))
   | .eptr cs off=>ret (.eptr cs (off+fd.offset))
   | .vptr id sz i off=>ret (.vptr id sz i (off+fd.offset))
   | _=>.err
  | _=>.err
 | none=>.err

def Ik (k:Int) (f:Nat→AV):Nat→Nat→Tr ew
 | _,0=>.err
 | i,1=>ret (f i)
 | i,n+2=>.br (k==(i:Int)) (ret (f i)) (Ik k f (i+1) (n+1))

def mA (P:Program) (hp:Nat→AO) (t:TypeId) (x i:AV):Tr ew:=
 match i with
 | .int _ k=>match P.underlying t with
  | some (.slice elem)=>match x with
   | .sl e l=>if dL P elem=some e.size then .chk (zI k l.length) (ret (.eptr (zn e (l.getD k.toNat (zj e))) 0)) else .err
   | .vec id=>match hp id with
    | .vec e l=>if dL P elem=some e.size then .chk (zI k l.length) (ret (.vptr id e.size k.toNat 0)) else .err
    | .frz e l=>if dL P elem=some e.size then .chk (zI k l.length) (ret (.eptr (zn e (l.getD k.toNat (zj e))) 0)) else .err
    | .hol _ l _ _=>if dL P elem=some 1 then .chk (zI k l.length) (ret (.vptr id 1 k.toNat 0)) else .err
    | _=>.err
   | _=>.err
  | some (.array len elem)=>match dL P elem with
   | some sz=>match x with
    | .ptr id off=>.chk (zI k len) (ret (.ptr id (off+k.toNat * sz)))
    | .eptr cs off=>.chk (zI k len) (Ik k (fun i=>.eptr cs (off+i * sz)) 0 len)
    | _=>.err
   | none=>.err
  | _=>.err
 | _=>.err

def Bc (P:Program) (t:TypeId) (x i:AV):Tr ew:=
 match i with
 | .int _ k=>match P.underlying t,x with
  | some .string,.str s=>.chk (zI k s.length) (ret (.int .u8 (s.getD k.toNat 0).toNat))
  | some (.array len elem),.agg cs=>match dL P elem with
   | some sz=>match mN P elem cs (k.toNat * sz) with
    | some v=>.chk (zI k len) (ret v)
    | none=>.err
   | none=>.err
  | _,_=>.err
 | _=>.err

def cJ (v:AV):List Nat:=match cellsOf v with
 | some cs=>cs.flatMap bw
 | none=>[]

def lr (E:bt) (hp:Nat→AO) (t:TypeId) (len:Nat) (ps:List (Nat×AV)):Tr ew:=
 match E.P.underlying t with
 | some (.slice elem)=>match len with
  | 0=>if ps.isEmpty&&(dL E.P elem).isSome then ret .nils else .err
  | _=>match E.sh elem with
   | some e=>
    if ps.length=len&&pQ 0 ps&&decide (len * e.size≤100000)&&(ps.flatMap fun p=>cJ p.2).all (fun j=>kG (hp j)) then match qP hp e (ps.map (·.2)) with
     | some l=>.ok { val:=.sl e l,wr:=ed hp (ps.flatMap fun p=>cJ p.2) }
     | none=>.err
    else .err
   | none=>.err
 | _=>.err

def oT (E:bt) (hp:Nat→AO) (n:Nat) (t:TypeId) (len:Nat) (ps:List (Nat×AV)):Tr ew:=
 match E.P.underlying t with
 | some (.slice elem)=>match E.sh elem with
  | some e=>
   if ps.length=len&&pQ 0 ps&&decide (0 < len)&&decide (len * e.size≤100000)&&(ps.flatMap fun p=>cJ p.2).isEmpty then match qP hp e (ps.map (·.2)) with
    | some l=>.ok { val:=.vec n,nw:=[.vec e l] }
    | none=>.err
   else .err
  | none=>.err
 | _=>.err

def ld:AV→Option Int
 | .int _ k=>some k
 | _=>none

def pL (P:Program) (t:TypeId) (x:AV) (lo hi mx:Option AV):Tr ew:=
 match P.underlying t,x,mx with
 | some .string,.str s,none=>
  match (match lo with | none=>some 0 | some a=>ld a),(match hi with | none=>some (s.length:Int) | some a=>ld a) with
  | some l,some h=>.chk (decide (0≤l)&&decide (l≤h)&&decide (h≤s.length)) (ret (.str ((s.drop l.toNat).take (h.toNat - l.toNat))))
  | _,_=>.err
 | some (.slice elem),.sl e s,none=>if dL P elem=some e.size then
   match (match lo with | none=>some 0 | some a=>ld a),(match hi with | none=>some (s.length:Int) | some a=>ld a) with
   | some l,some h=>.chk (decide (0≤l)&&decide (l≤h)&&decide (h≤s.length)) (ret (.sl e ((s.drop l.toNat).take (h.toNat - l.toNat))))
   | _,_=>.err
  else .err
 | some (.slice elem),.sl _ _,some (.int _ 0)=>match lo,hi with
  | none,some (.int _ 0)=>if (dL P elem).isSome then ret .nils else .err
  | _,_=>.err
 | some (.slice elem),.nils,some (.int _ 0)=>match lo,hi with
  | none,some (.int _ 0)=>if (dL P elem).isSome then ret .nils else .err
  | _,_=>.err
 | _,_,_=>.err

def vH (P:Program) (hp:Nat→AO) (t:TypeId) (x:AV) (lo hi mx:Option AV):Tr ew:=
 match x with
 | .vec id=>match hp id with
  | .vec e l=>match lo,hi,mx with
   | some a,none,none=>match ld a,P.underlying t with
    | some k,some (.slice elem)=>if dL P elem=some e.size then .chk (decide (0≤k)&&decide (k≤l.length)) (ret (.vsuf id e.size k.toNat)) else .err
    | _,_=>.err
   | _,_,_=>(pL P t (.sl e l) lo hi mx).bind fun f=>.ok { val:=f.val,wr:=ed hp [id] }
  | .frz e l=>pL P t (.sl e l) lo hi mx
  | _=>.err
 | x=>pL P t x lo hi mx

def Cc (P:Program) (e:Sh) (elem:TypeId):Option (Sem e):=match oH P elem with
 | some z=>match cellsOf z with
  | some cs=>match cm (fun _=>.dead) e cs with
   | some (x,[])=>some x
   | _=>none
  | none=>none
 | none=>none

def A9 (P:Program) (hp:Nat→AO) (t:TypeId):AV→Tr ew
 | .vsuf id sz i=>match hp id,P.underlying t with
  | .vec e l,some (.slice elem)=>if e.size=sz then match Cc P e elem with
    | some x=>.chk (decide (i≤l.length)) (.ok { val:=.tup [],wr:=[(id,.vec e (l.take i++List.replicate (l.length - i) x))] })
    | none=>.err
   else .err
  | _,_=>.err
 | _=>.err

def Lf (P:Program) (hp:Nat→AO) (t:TypeId) (x:AV):Tr ew:=
 match P.underlying t with
 | some .string=>match x with
  | .str s=>ret (.int .i64 s.length)
  | _=>.err
 | some (.slice _)=>match x with
  | .nils=>ret (.int .i64 0)
  | .sl _ l=>ret (.int .i64 l.length)
  | .vec id=>match hp id with
   | .vec _ l=>ret (.int .i64 l.length)
   | .frz _ l=>ret (.int .i64 l.length)
   | _=>.err
  | _=>.err
 | some (.map _ _)=>match x with
  | .mp id=>match hp id with
   | .vmap _ es=>.chk (decide (es.length≤1073741824)) (ret (.int .i64 es.length))
   | _=>.err
  | _=>.err
 | _=>.err

def pI (E:bt) (hp:Nat→AO) (n:Nat) (elem:TypeId) (b x:AV):Tr ew:=
 match E.sh elem,b with
 | some e,.nils=>match xw hp e x with
  | some l=>.chk (decide (l.length≤1073741824)) (.ok { val:=.vec n,nw:=[.vec e l] })
  | none=>.err
 | some e,.vec id=>match hp id with
  | .vec e' l0=>if h:e'=e then match xw hp e x with
    | some l'=>.chk (decide (l0.length+l'.length≤1073741824)) (.ok { val:=.vec n,wr:=[(id,.dead)],nw:=[.vec e ((h▸l0:List (Sem e))++l')] })
    | none=>.err
   else .err
  | _=>.err
 | _,_=>.err

def Hd (es:List (zo×AV)) (s:zo) (z:Tr ew):Tr ew:=match es with
 | []=>z
 | (k,v)::r=>.br (s==k) (ret v) (Hd r s z)

def Bm (es:List (zo×AV)) (s:zo) (z:Tr ew):Tr ew:=match es with
 | []=>z
 | (k,v)::r=>.br (s==k) (ret (.tup [v,.kb true])) (Bm r s z)

def JJ:AV→Option (Int×Int×zo)
 | .agg [.int .i64 a,.int .i64 b,.str s]=>some (a,b,s)
 | _=>none

def X9:Bool→AV→Option Int
 | false,.int .i64 n=>some n
 | true,.agg []=>some 0
 | _,_=>none

def fN (es:List ((Int×Int×zo)×Int)) (k:Int×Int×zo):Bool:=es.any fun p=>k==p.1
def eY (es:List ((Int×Int×zo)×Int)) (k:Int×Int×zo):Int:=((es.find? fun p=>k==p.1).map (·.2)).getD 0
def iC (es:List ((Int×Int×zo)×Int)) (k:Int×Int×zo) (x:Int):List ((Int×Int×zo)×Int):=match es with
 | []=>[(k,x)]
 | p::r=>bif k==p.1 then (k,x)::r else p::iC r k x

def iw (es:List ((Int×Int×zo)×Int)) (k:Int×Int×zo):List ((Int×Int×zo)×Int):=bif fN es k then es else es++[(k,0)]
def jE (es:List ((Int×Int×zo)×Int)) (k:Int×Int×zo):Nat:=match es with
 | []=>0
 | p::r=>bif k==p.1 then 0 else jE r k+1
def iD (es:List ((Int×Int×zo)×Int)) (n:Nat) (x:Int):List ((Int×Int×zo)×Int):=match es,n with
 | [],_=>[]
 | p::r,0=>(p.1,x)::r
 | p::r,n+1=>p::iD r n x

def Bi (P:Program) (t:TypeId):Bool:=match P.underlying t with
 | some (.int _)=>true
 | _=>false
def Fk (P:Program) (t:TypeId):Bool:=match P.underlying t with
 | some .string=>true
 | _=>false

def mc (P:Program) (kt:TypeId):Bool:=match P.underlying kt with
 | some (.struct fs) => !P.stoodInHeld kt && !P.eqGuardType P.depth kt&&(match fs.toList with
  | [f1,f2,f3]=>f1.name != "_" && f1.offset==0&&Bi P f1.type&&(f2.name != "_" && f2.offset==1&&Bi P f2.type)&&(f3.name != "_" && f3.offset==2&&Fk P f3.type)
  | _=>false)
 | _=>false

def Mv (P:Program) (t:TypeId):Option AO:=match P.underlying t with
 | some (.map kt et)=>match P.underlying kt with
  | some .string=>some (.fmap [])
  | _=>if mc P kt then match P.underlying et with
    | some (.int .i64)=>some (.vmap false [])
    | some (.struct fs)=>if fs.size=0 then some (.vmap true []) else none
    | _=>none
   else none
 | _=>none

def pK (P:Program) (hp:Nat→AO) (t:TypeId) (m k x:AV):Tr ew:=
 match P.underlying t with
 | some (.map kt _)=>match P.underlying kt with
  | some .string=>match m,k with
   | .mp id,.str s=>match hp id with
    | .fmap es=>.chk (!(es.any fun p=>p.1==s)) (.ok { val:=.tup [],wr:=[(id,.fmap (es++[(s,x)]))] })
    | _=>.err
   | _,_=>.err
  | some (.struct _)=>if mc P kt then match m,JJ k with
    | .mp id,some v=>match hp id with
     | .vmap u es=>match X9 u x with
      | some n=>.ok { val:=.tup [],wr:=[(id,.vmap u (iC es v n))] }
      | none=>.err
     | _=>.err
    | _,_=>.err
   else .err
  | _=>.err
 | _=>.err

def pJ (P:Program) (hp:Nat→AO) (t:TypeId) (m k:AV):Tr ew:=
 match P.underlying t with
 | some (.map kt et)=>if mc P kt then match m,JJ k with
   | .mp id,some v=>match hp id with
    | .vmap false es=>match oH P et with
     | some (.int .i64 z)=>if z=0 then .chk (decide (es.length≤1073741824)) (.ok { val:=.tup [.int .i64 (eY es v),.int .i64 (jE es v)],wr:=[(id,.vmap false (iw es v))] }) else .err
     | _=>.err
    | _=>.err
   | _,_=>.err
  else .err
 | _=>.err

def ls (hp:Nat→AO) (m s x:AV):Tr ew:=
 match m,s,x with
 | .mp id,.int .i64 n,.int .i64 y=>match hp id with
  | .vmap false es=>.chk (zI n es.length) (.ok { val:=.tup [],wr:=[(id,.vmap false (iD es n.toNat y))] })
  | _=>.err
 | _,_,_=>.err

def Te (P:Program) (et:TypeId):Tr ew:=match oH P et with
 | some z=>ret (.tup [z,.kb false])
 | none=>.err

def jp (P:Program) (hp:Nat→AO) (t:TypeId) (x i:AV) (two:Bool):Tr ew:=
 match P.underlying t with
 | some (.map kt et)=>match P.underlying kt with
  | some .string=>match x,i with
   | .mp id,.str s=>match hp id with
    | .fmap es=>if two then Bm es s (Te P et) else Hd es s (wH (oH P et))
    | _=>.err
   | _,_=>.err
  | some (.struct _)=>if mc P kt then match x,JJ i with
    | .mp id,some v=>match hp id with
     | .vmap u es=>match oH P et with
      | some (.int .i64 z)=>if u=false∧z=0 then ret (if two then .tup [.int .i64 (eY es v),.bool (fN es v)] else .int .i64 (eY es v)) else .err
      | some (.agg cs)=>if u=true∧cs.isEmpty=true then ret (if two then .tup [.agg [],.bool (fN es v)] else .agg []) else .err
      | _=>.err
     | _=>.err
    | _,_=>.err
   else .err
  | _=>.err
 | _=>.err

def Le (E:bt) (ev:Operand→AV) (hp:Nat→AO) (n:Nat) (c:Call):Tr ew:=
 match c.callee with
 | .value f=>match ev f with
  | .clo (.func k) first caps=>match E.F k with
   | some F=>F (first++c.args.toList.map ev++caps) hp n
   | none=>.err
  | _=>.err
 | .builtin .len=>match c.args.toList.map ev,c.argTypes.toList with
  | [x],[t]=>Lf E.P hp t x
  | _,_=>.err
 | .builtin .append=>match c.args.toList.map ev,c.argTypes.toList with
  | [b,x],[t,t']=>match E.P.underlying t,E.P.underlying t' with
   | some (.slice elem),some (.slice _)=>pI E hp n elem b x
   | _,_=>.err
  | _,_=>.err
 | .builtin .clear=>match c.args.toList.map ev,c.argTypes.toList with
  | [x],[t]=>A9 E.P hp t x
  | _,_=>.err
 | _=>.err

def iy (l:List Int):zo:=l.map fun n=>UInt8.ofNat n.toNat
def A8 (P:Program) (el:TypeId):AV→Tr ew
 | .sl (.int .u8) l=>match P.underlying el with
  | some (.int .u8)=>ret (.str (iy l))
  | _=>.err
 | _=>.err

def mB (E:bt) (ev:Operand→AV) (hp:Nat→AO) (n:Nat) (o:Oper):Tr ew:=
 match o.op with
 | .move x | .assign x=>ret (ev x)
 | .pick c a b=>match ev c with
  | .kb true=>ret (ev a)
  | .kb false=>ret (ev b)
  | .bool x=>wH (nD x (ev a) (ev b))
  | _=>.err
 | .box _ x=>match cellsOf (ev x) with
  | some cs=>.ok { val:=.ptr n 0,nw:=[.box cs] }
  | none=>.err
 | .alloc t=>match N8 E.P t with
  | some cs=>.ok { val:=.ptr n 0,nw:=[.box cs] }
  | none=>.err
 | .load t a=>Bd E.P hp t (ev a)
 | .store t a x=>match E.nest with
  | true=>vI E.P hp t (ev a) (ev x)
  | false=>pM E.P hp t (ev a) (ev x)
 | .fieldAddr t x f=>Bb E.P t f (ev x)
 | .field t x f=>match te E.P t f,ev x with
  | some fd,.agg cs=>wH (mN E.P fd.type cs fd.offset)
  | _,_=>.err
 | .indexAddr t x i=>mA E.P hp t (ev x) (ev i)
 | .index t x i=>Bc E.P t (ev x) (ev i)
 | .build t parts=>wH (Ey E.P t (parts.toList.map fun p=>(p.1,ev p.2)))
 | .buildSlice t len parts=>match E.own with
  | true=>oT E hp n t len (parts.toList.map fun p=>(p.1,ev p.2))
  | false=>lr E hp t len (parts.toList.map fun p=>(p.1,ev p.2))
 | .binOp op t x y _=>Vw E.P op t (ev x) (ev y)
 | .unOp .not _ x=>match ev x with
  | .bool b=>ret (.bool (!b))
  | .kb b=>ret (.kb (!b))
  | _=>.err
 | .unOp .neg _ x=>match ev x with
  | .int k a=>ret (.int k (k.wrap (0 - a)))
  | _=>.err
 | .convert src dst x=>match E.P.underlying src,E.P.underlying dst,ev x with
  | some _,some (.int k),.int _ a=>ret (.int k (k.wrap a))
  | some _,some .string,.str s=>ret (.str s)
  | some (.slice el),some .string,.sl e l=>A8 E.P el (.sl e l)
  | _,_,_=>.err
 | .slice t x lo hi mx=>vH E.P hp t (ev x) (lo.map ev) (hi.map ev) (mx.map ev)
 | .extract x i=>match ev x with
  | .tup vs=>wH vs[i]?
  | _=>.err
 | .makeFunc fn first caps=>ret (.clo fn (first.toList.map ev) (caps.toList.map ev))
 | .nilCheck x=>match ev x with
  | .ptr a b=>ret (.ptr a b)
  | .eptr a b=>ret (.eptr a b)
  | .vptr a b c d=>ret (.vptr a b c d)
  | .clo (.func f) a b=>ret (.clo (.func f) a b)
  | _=>.err
 | .call c=>Le E ev hp n c
 | .makeMap t none=>match Mv E.P t with
  | some o=>.ok { val:=.mp n,nw:=[o] }
  | none=>.err
 | .insert t m k x=>pK E.P hp t (ev m) (ev k) (ev x)
 | .mapUpdate t m k x=>pK E.P hp t (ev m) (ev k) (ev x)
 | .lookup t x i two=>jp E.P hp t (ev x) (ev i) two
 | .mapEntry t m k=>pJ E.P hp t (ev m) (ev k)
 | .entryStore _ m s x=>ls hp (ev m) (ev s) (ev x)
 | _=>.err

mutual
def AV.ids:AV→List Nat
 | .vec id | .ptr id _ | .vptr id _ _ _ | .mp id | .vsuf id _ _=>[id]
 | .eptr cs _ | .agg cs | .tup cs=>AV.idsL cs
 | .clo _ a b=>AV.idsL a++AV.idsL b
 | _=>[]
def AV.idsL:List AV→List Nat
 | []=>[]
 | v::r=>v.ids++AV.idsL r
end

mutual
def AV.ren (f:Nat→Nat):AV→AV
 | .vec id=>.vec (f id)
 | .ptr id o=>.ptr (f id) o
 | .vptr id sz i o=>.vptr (f id) sz i o
 | .mp id=>.mp (f id)
 | .vsuf id sz i=>.vsuf (f id) sz i
 | .eptr cs o=>.eptr (AV.renL f cs) o
 | .agg cs=>.agg (AV.renL f cs)
 | .tup cs=>.tup (AV.renL f cs)
 | .clo g a b=>.clo g (AV.renL f a) (AV.renL f b)
 | v=>v
def AV.renL (f:Nat→Nat):List AV→List AV
 | []=>[]
 | v::r=>v.ren f::AV.renL f r
end

def AO.ids:AO→List Nat
 | .box cs=>AV.idsL cs
 | .fmap es=>AV.idsL (es.map (·.2))
 | .hol _ _ _ m=>[m]
 | _=>[]
def AO.ren (f:Nat→Nat):AO→AO
 | .box cs=>.box (AV.renL f cs)
 | .fmap es=>.fmap (es.map fun p=>(p.1,p.2.ren f))
 | .hol e l i m=>.hol e l i (f m)
 | o=>o

def iK (hp:Nat→AO):Nat→List Nat→List Nat→List Nat
 | 0,_,seen=>seen
 | _+1,[],seen=>seen
 | n+1,i::r,seen=>if seen.contains i then iK hp n r seen else iK hp n (r++(hp i).ids) (seen++[i])

def fh:Op→Bool
 | .load .. | .store .. | .indexAddr .. | .buildSlice .. | .slice .. | .call _ | .insert .. | .mapUpdate .. | .lookup .. | .mapEntry .. | .entryStore .. => true
 | _=>false

def oM:Op→Bool
 | .call _=>true
 | _=>false

def pO (hp:Nat→AO) (ev:Operand→AV) (o:Oper):List Nat:=
 if oM o.op then iK hp 400 (AV.idsL (o.op.operands.toList.map ev)) [] else if fh o.op then AV.idsL (o.op.operands.toList.map ev) else []

def Dk (hp:Nat→AO) (ev:Operand→AV) (o:Oper):Bool:=
 !fh o.op||(AV.idsL (o.op.operands.toList.map ev)).all (fun i=>(pO hp ev o).contains i)&&(!oM o.op||(pO hp ev o).all (fun i=>(hp i).ids.all fun j=>(pO hp ev o).contains j))

structure x3 where
 fp:List Nat:=[]
 wr:List Nat:=[]
 base:Nat:=0
 nw:Nat:=0

structure RS where
 tmps:List AV
 heap:List AO
 known:List (Nat×Bool):=[]
 touched:Bool:=false
 log:List x3:=[]

def RS.hp (st:RS) (id:Nat):AO:=st.heap.getD id .dead

def qH (E:bt) (tmps:List AV) (known:List (Nat×Bool)):Operand→AV
 | .tmp t=>match known.lookup t with
  | some b=>.kb b
  | none=>tmps.getD t .any
 | .const v=>t7 v
 | .global g=>E.gl g
 | .func f=>.clo (.func f) [] []

def kV (h:List AO):List (Nat×AO)→List AO
 | []=>h
 | (i,o)::r=>kV (h.set i o) r

def mR (tmps:List AV) (dst:Option Tmp) (v:AV):List AV:=match dst with
 | some d=>tmps.set d v
 | none=>tmps

def oY (known:List (Nat×Bool)) (dst:Option Tmp):List (Nat×Bool):=match dst with
 | some d=>known.filter fun p=>p.1 != d
 | none=>known

def xI (E:bt) (o:Oper) (st:RS):Tr RS:=
  if Dk st.hp (qH E st.tmps st.known) o then
  (mB E (qH E st.tmps st.known) st.hp st.heap.length o).bind fun f=>
    if f.wr.all (fun p=>p.1 < st.heap.length&&(pO st.hp (qH E st.tmps st.known) o).contains p.1) then
    .ok { tmps:=mR st.tmps o.dst f.val,heap:=kV st.heap f.wr++f.nw,known:=oY st.known o.dst,
          touched:=st.touched || !(f.wr.isEmpty&&f.nw.isEmpty),
          log:=st.log++[{ fp:=pO st.hp (qH E st.tmps st.known) o,wr:=f.wr.map (·.1),base:=st.heap.length,nw:=f.nw.length }] }
    else .err
  else .err

def kf (o:Oper) (st:RS):RS:=
 { st with tmps:=mR st.tmps o.dst (.tup []),known:=oY st.known o.dst,log:=st.log++[{}] }

def pf (E:bt) (ops:List Oper) (st:RS) (o:Oper):Tr RS:=
 match o.guard with
 | none=>xI E o st
 | some (j,want)=>match (ops[j]?).bind (·.dst) with
  | none=>.ok (kf o st)
  | some d=>match qH E st.tmps st.known (.tmp d) with
   | .kb b=>if b==want then xI E o st else .ok (kf o st)
   | .tup _=>.ok (kf o st)
   | .bool b=>
    let yes:RS:={ st with known:=(d,true)::st.known }
    let no:RS:={ st with known:=(d,false)::st.known }
    .br b (if want then xI E o yes else .ok (kf o yes)) (if want then .ok (kf o no) else xI E o no)
   | _=>.err

def bT (E:bt) (ops:List Oper):List Oper→RS→Tr RS
 | [],st=>.ok st
 | o::r,st=>(pf E ops st o).bind (bT E ops r)

def It (ops:List Oper):List Nat:=ops.filterMap (·.dst)

def cE (c:Bool):List Nat→List AV→List AV→List AV→List AV
 | [],pre,_,_=>pre
 | d::r,pre,t,f=>cE c r (pre.set d ((nD c (t.getD d .any) (f.getD d .any)).getD .any)) t f

def PB:AV→AV→Bool
 | .clo (.func a) _ _,.clo (.func b) _ _=>a != b
 | .clo _ _ _,.nilf=>true
 | .nilf,.clo _ _ _=>true
 | _,_=>false

def pA (ds:List Nat) (l l':List AV):Bool:=ds.any fun d=>PB (l.getD d .any) (l'.getD d .any)

def sV (ds:List Nat) (pre:List AV):Tr RS→Option (Option Bool×List AV)
 | .err=>none
 | .ok st=>if st.touched then none else some (none,st.tmps)
 | .chk c t=>match sV ds pre t with
  | some (none,l)=>some (some c,l)
  | some (some c',l)=>some (some (c&&c'),l)
  | none=>none
 | .br c t f=>match sV ds pre t,sV ds pre f with
  | some (none,l),some (none,l')=>if pA ds l l' then none else some (none,cE c ds pre l l')
  | some (some a,l),some (none,l')=>if pA ds l l' then none else some (some (bif c then a else true),cE c ds pre l l')
  | some (none,l),some (some b,l')=>if pA ds l l' then none else some (some (bif c then true else b),cE c ds pre l l')
  | some (some a,l),some (some b,l')=>if pA ds l l' then none else some (some (bif c then a else b),cE c ds pre l l')
  | _,_=>none

def zde {α:Type}:Tr α→Bool
 | .br .. => true
 | .chk _ t=>zde t
 | _=>false

def Pi:List Oper→List (List Nat)→List (List Nat)
 | [],acc=>acc
 | o::r,acc=>Pi r (acc++[o.after.toList.flatMap fun e=>if Region.binds .any e then e.on::acc.getD e.on [] else []])

def dU (ops:List Oper) (o:Oper):List Nat:=
  (o.op.operands.toList.filterMap fun | .tmp t=>some t | _=>none)++
  (match o.guard with
   | some (j,_)=>((ops[j]?).bind (·.dst)).toList
   | none=>[])

def fX (a b:List Nat):Bool:=a.any fun x=>b.contains x

def eE (r:x3) (x:Nat):Bool:=decide (r.base≤x)&&decide (x < r.base+r.nw)

def pz (ops:List Oper) (oi oj:Oper) (ri rj:x3):Bool:=
 fX oi.dst.toList (dU ops oj)||fX oi.dst.toList oj.dst.toList||fX (dU ops oi) oj.dst.toList||
 fX ri.wr rj.fp||fX ri.fp rj.wr||rj.fp.any (eE ri)||ri.fp.any (eE rj)

def bL (r:x3) (id:Nat):Bool:=r.wr.contains id||eE r id

def NT (ops:List Oper) (log:List x3) (an:List (List Nat)) (i j:Nat) (oi oj:Oper) (ri rj:x3):Bool:=
 match oi.op,oj.op,ri.fp,rj.wr with
 | .lookup _ _ _ false,.mapEntry _ _ _,[a],[b]=>b==a&&ri.wr.isEmpty&&ri.nw==0&&rj.nw==0&&
  !(fX oi.dst.toList (dU ops oj)||fX oi.dst.toList oj.dst.toList||fX (dU ops oi) oj.dst.toList)&&
  (List.range ops.length).all fun l=>match log[l]? with
   | some rl => !bL rl a||decide (l < i)||l==j||(decide (j < l)&&(an.getD l []).contains i)
   | none=>false
 | _,_,_,_=>false

def p0 (ops:List Oper) (log:List x3):Bool:=
 let an:=Pi ops []
 (ops.zipIdx.all fun p=>p.1.after.toList.all fun e => !Region.binds .any e||decide (e.on < p.2))&&
 (List.range ops.length).all fun j=>(List.range j).all fun i=>
  match ops[i]?,ops[j]?,log[i]?,log[j]? with
  | some oi,some oj,some ri,some rj => !pz ops oi oj ri rj||(an.getD j []).contains i||NT ops log an i j oi oj ri rj
  | _,_,_,_=>false

def checked (ops:List Oper):Tr RS→Tr RS
 | .err=>.err
 | .chk c t=>.chk c (checked ops t)
 | .br c t f=>.br c (checked ops t) (checked ops f)
 | .ok st=>if p0 ops st.log then .ok st else .err

def RS.out (st:RS):St:={ tmps:=st.tmps,heap:=st.heap }

def oW (E:bt) (ops:List Oper) (draw:Bool) (st:St):Tr St:=
 let t0:=bT E ops ops { tmps:=st.tmps,heap:=st.heap }
 let t:=if draw then checked ops t0 else t0
 if zde t then match sV (It ops) st.tmps t with
  | some (none,l)=>.ok { st with tmps:=l }
  | some (some c,l)=>.chk c (.ok { st with tmps:=l })
  | none=>t.bind fun s=>.ok s.out
 else t.bind fun s=>.ok s.out

inductive zt where
 | head (key:Nat) (k:List Item) (st:St)
 | ret (v:AV) (heap:List AO)
 | fork (c:Bool) (k1 k2:List Item) (st:St)

def Bn:Code→Code→Option (Nat×Nat×Nat×TypeId×Code×Code)
 | .region _ ops false,.cond (.tmp d') a b=>match ops.toList with
  | [o1,o2]=>match o1.dst,o1.op,o1.guard,o2.dst,o2.op,o2.guard with
   | some x,.move (.tmp s),none,some d,.binOp .eql t (.tmp x') (.const (.slice none 0 0)) _,none=>if x'=x∧d'=d∧x≠d then some (s,x,d,t,a,b) else none
   | _,_,_,_,_,_=>none
  | _=>none
 | _,_=>none

def AW (hp:Nat→AO):AV→Option Bool
 | .nils=>some true
 | .sl _ l=>some l.isEmpty
 | .vec id=>match hp id with
  | .vec _ l=>some l.isEmpty
  | .frz _ l=>some l.isEmpty
  | _=>none
 | _=>none

def Fj (P:Program) (t:TypeId):Bool:=match P.underlying t with
 | some (.slice _)=>true
 | _=>false

def xL (keep:List Nat):Nat→List AV→List AV
 | _,[]=>[]
 | i,v::r=>(if keep.contains i then v else .any)::xL keep (i+1) r

def p8 (st:St):Nat×Option Nat×Sh→St
 | (s,none,e)=>match st.tmps.getD s .any with
  | .nils=>{ tmps:=st.tmps.set s (.vec st.heap.length),heap:=st.heap++[.vec e []] }
  | _=>st
 | (s,some c,e)=>match st.tmps.getD s .any with
  | .ptr id 0=>match st.hp id with
   | .box cs=>match cs.getD c .any with
    | .nils=>{ tmps:=st.tmps,heap:=st.heap.set id (.box (cs.set c (.vec st.heap.length)))++[.vec e []] }
    | _=>st
   | _=>st
  | _=>st

def An (st:St):Nat×Nat→St
 | (s,c)=>match st.tmps.getD s .any with
  | .ptr id 0=>match st.hp id with
   | .box cs=>match cs.getD c .any with
    | .vec k=>match sW (st.hp k) with
     | .frz e l=>{ tmps:=st.tmps,heap:=(st.heap.set k (.frz e l)).set id (.box (cs.set c (.sl e l))) }
     | _=>st
    | _=>st
   | _=>st
  | _=>st

def Dh (st:St) (s:Nat):St:=match st.tmps.getD s .any with
 | .vec id=>match st.hp id with
  | .hol e l i m=>match st.hp m with
   | .vec e' l'=>if h:e'=e then { tmps:=st.tmps,heap:=(st.heap.set m (.frz e' l')).set id (.vec (.sl e) (l.set i (h▸l'))) } else st
   | _=>st
  | _=>st
 | _=>st

structure ah where
 slots:List Nat:=[]
 prom:List (Nat×Option Nat×Sh):=[]
 unroll:Bool:=false
 sett:List (Nat×Nat):=[]
 cut:Bool:=false
 fill:List Nat:=[]

def Hf:List Nat→Bool
 | []=>true
 | i::r => !r.contains i&&Hf r

def iY (hp:Nat→AO) (n0:Nat) (from_ ids:List Nat):Bool:=
 from_.all (fun i=>ids.contains i)&&ids.all (fun i=>(hp i).ids.all fun j=>ids.contains j)&&Hf ids&&ids.take n0==List.range n0

def Tb (n0:Nat) (st:St):Option St:=
 let ids:=iK st.hp 400 (List.range n0++AV.idsL st.tmps) []
 if iY st.hp n0 (AV.idsL st.tmps) ids then
  some { tmps:=AV.renL (fun i=>ids.idxOf i) st.tmps,heap:=ids.map fun i=>(st.hp i).ren fun i=>ids.idxOf i }
 else none

def WY (n0:Nat) (k:ah) (st:St):Option St:=
 Tb n0 (k.prom.foldl p8 (k.fill.foldl Dh { st with tmps:=xL k.slots 0 st.tmps }))

def jr (n0:Nat) (k:ah) (key:Nat) (todo:List Item) (st:St):Tr zt:=
 match WY n0 k st with
 | some st'=>.ok (.head key todo st')
 | none=>.err

def dC:Code→Nat
 | .region id _ _=>id
 | .seq a _=>dC a
 | .block _ c=>dC c
 | .loop c=>dC c
 | .scope c=>dC c
 | _=>0

def BG (E:bt) (st:St):ResultVar→Option AV
 | .tmp t=>some (st.tmps.getD t .any)
 | .cell a t=>match st.tmps.getD a .any with
  | .ptr id off=>match st.hp id with
   | .box cs=>mN E.P t cs off
   | _=>none
  | _=>none

def ql (E:bt) (st:St):List ResultVar→Option (List AV)
 | []=>some []
 | r::rs=>match BG E st r,ql E st rs with
  | some v,some vs=>some (v::vs)
  | _,_=>none

def Bp:List AV→AV
 | [v]=>v
 | vs=>.tup vs

def qk (E:bt) (n0:Nat) (rs:List ResultVar) (st:St):Tr zt:=
 match ql E st rs with
 | some vs=>
  let v:AV:=Bp vs
  let ids:=iK st.hp 400 (List.range n0++v.ids) []
  if iY st.hp n0 v.ids ids then .ok (.ret (v.ren fun i=>ids.idxOf i) (ids.map fun i=>(st.hp i).ren fun i=>ids.idxOf i)) else .err
 | none=>.err

def tc (st:St) (c:Operand) (b:Bool):St:=match c with
 | .tmp t=>{ st with tmps:=st.tmps.set t (.kb b) }
 | _=>st

def run (E:bt) (n0:Nat) (keep:Nat→ah) (rs:List ResultVar):Nat→List Item→St→Tr zt
 | 0,_,_=>.err
 | n + 1,todo,st=>match todo with
  | []=>qk E n0 rs ((keep 1000000).sett.foldl An ((keep 1000000).prom.foldl p8 st))
  | .inBlock _::k=>run E n0 keep rs n k st
  | .inLoop c::k=>if (keep (dC c)).unroll then run E n0 keep rs n (.code c::.inLoop c::k) st else jr n0 (keep (dC c)) (dC c) (.code c::.inLoop c::k) st
  | .code c::k=>match c with
   | .skip=>run E n0 keep rs n k st
   | .label _=>run E n0 keep rs n k st
   | .seq a b=>match Bn a b with
    | some (s,x,d,t,thn,els)=>match AW st.hp (st.tmps.getD s .any) with
     | some c=>if Fj E.P t&&(decide (d < st.tmps.length)&&decide (x < st.tmps.length)) then .ok (.fork c (.code thn::k) (.code els::k) { st with tmps:=(st.tmps.set x (st.tmps.getD s .any)).set d .any }) else .err
     | none=>.err
    | none=>run E n0 keep rs n (.code a::.code b::k) st
   | .cond c a b=>match qH E st.tmps [] c with
    | .kb true=>run E n0 keep rs n (.code a::k) st
    | .kb false=>run E n0 keep rs n (.code b::k) st
    | .bool x=>.br x (run E n0 keep rs n (.code a::k) (tc st c true)) (run E n0 keep rs n (.code b::k) (tc st c false))
    | _=>.err
   | .block id c=>run E n0 keep rs n (.code c::.inBlock id::k) st
   | .loop c=>if (keep (dC c)).unroll then run E n0 keep rs n (.code c::.inLoop c::k) st else jr n0 (keep (dC c)) (dC c) (.code c::.inLoop c::k) st
   | .exit id=>match exitTo id k with
    | some k'=>run E n0 keep rs n k' st
    | none=>.err
   | .ret=>qk E n0 rs ((keep 1000000).sett.foldl An ((keep 1000000).prom.foldl p8 st))
   | .region id ops draw=>(oW E ops.toList draw st).bind fun st'=>if (keep (id+500000)).cut then jr n0 (keep (id+500000)) (id+500000) k st' else run E n0 keep rs n k st'
   | _=>.err
  | _=>.err

def aq (n:Nat) (args:List AV) (heap:List AO):St:={ tmps:=args++List.replicate (n - args.length) (.tup []),heap }

def tm (n:Nat) (l:List (Nat×AV)):List AV:=l.foldl (fun a p=>a.set p.1 p.2) (List.replicate n .any)

abbrev ny:AV:=.any
abbrev ai (n:Int):AV:=.int .i64 n

def ch (k:IntKind) (n:Int):Prop:=k.min≤n∧n≤k.max

def zC:Nat:=9223372036854775807

inductive Rv (w:World) (U:Nat→Prop) (ρ:Nat→Option Value):AV→Value→Prop
 | any (v:Value):Rv w U ρ .any v
 | kb (b:Bool):Rv w U ρ (.kb b) (.bool b)
 | bool (b:Bool):Rv w U ρ (.bool b) (.bool b)
 | int (k:IntKind) (n:Int) (h:ch k n):Rv w U ρ (.int k n) (.int k n)
 | str (s:zo) (h:s.length≤zC):Rv w U ρ (.str s) (.string ⟨s.toArray⟩)
 | nils (a:Option Addr):Rv w U ρ .nils (.slice a 0 0)
 | sl0 (e:Sh) (a:Option Addr) (c:Nat):Rv w U ρ (.sl e []) (.slice a 0 c)
 | sl (e:Sh) (l:List (Sem e)) (b o c:Nat) (vals:Nat→Nat→Value) (hc:l.length≤c) (hm:l.length≤zC) (hb:b < w.heap.size) (hU:¬ U b)
   (hcell:∀ i j,i < l.length→j < e.size→w.cell? ⟨b,o+i * e.size+j,none⟩=some (vals i j))
   (hr:∀ i (hi:i < l.length) (j:Nat) (c:AV),(zn e l[i])[j]?=some c→Rv w U ρ c (vals i j)):
   Rv w U ρ (.sl e l) (.slice (some ⟨b,o,none⟩) l.length c)
 | vec (id:Nat) (v:Value) (h:ρ id=some v) (h1:v.oneCell'=true):Rv w U ρ (.vec id) v
 | ptr (id off b:Nat) (h:ρ id=some (.pointer (some ⟨b,0,none⟩))):Rv w U ρ (.ptr id off) (.pointer (some ⟨b,off,none⟩))
 | vptr (id sz i off b n c:Nat) (h:ρ id=some (.slice (some ⟨b,0,none⟩) n c)):Rv w U ρ (.vptr id sz i off) (.pointer (some ⟨b,i * sz+off,none⟩))
 | eptr (cs:List AV) (off b o:Nat) (vals:Nat→Value) (hb:b < w.heap.size) (hU:¬ U b)
   (hcell:∀ j,j < cs.length→w.cell? ⟨b,o+j,none⟩=some (vals j)) (h1:∀ j,j < cs.length→(vals j).oneCell'=true)
   (hr:∀ (j:Nat) (c:AV),cs[j]?=some c→Rv w U ρ c (vals j)):Rv w U ρ (.eptr cs off) (.pointer (some ⟨b,o+off,none⟩))
 | nilp:Rv w U ρ .nilp (.pointer none)
 | agg (cs:List AV) (vs:List Value) (hl:cs.length=vs.length) (h1:∀ v∈vs,v.oneCell'=true)
   (hr:∀ (j:Nat) (c:AV) (v:Value),cs[j]?=some c→vs[j]?=some v→Rv w U ρ c v):Rv w U ρ (.agg cs) (.agg vs.toArray)
 | tup (cs:List AV) (vs:List Value) (hl:cs.length=vs.length)
   (hr:∀ (j:Nat) (c:AV) (v:Value),cs[j]?=some c→vs[j]?=some v→Rv w U ρ c v):Rv w U ρ (.tup cs) (.tuple vs.toArray)
 | clo (fn:Fn) (fs cs:List AV) (vf vc:List Value) (hf:fs.length=vf.length) (hc:cs.length=vc.length)
   (hrf:∀ (j:Nat) (c:AV) (v:Value),fs[j]?=some c→vf[j]?=some v→Rv w U ρ c v) (hrc:∀ (j:Nat) (c:AV) (v:Value),cs[j]?=some c→vc[j]?=some v→Rv w U ρ c v):
   Rv w U ρ (.clo fn fs cs) (.func fn vf.toArray vc.toArray)
 | nilf:Rv w U ρ .nilf .nilFunc
 | mp (id:Nat) (v:Value) (h:ρ id=some v) (h1:v.oneCell'=true):Rv w U ρ (.mp id) v
 | ifcN:Rv w U ρ (.ifc true) .nilIface
 | ifcS (t:TypeId) (v:Value):Rv w U ρ (.ifc false) (.iface t v)
 | tab (k:IntKind) (zs:List Int) (b:Nat) (T:TypeId) (fr:Nat×Nat) (hb:w.heap[b]?=some (.cells (zs.map fun z=>Value.int k z).toArray T fr)) (hU:¬ U b):Rv w U ρ (.tab k zs) (.pointer (some ⟨b,0,none⟩))
 | gint (m:Int) (b:Nat) (T:TypeId) (fr:Nat×Nat) (hm:ch .i64 m) (hb:w.heap[b]?=some (.cells #[Value.int .i64 m] T fr)) (hU:¬ U b):Rv w U ρ .gint (.pointer (some ⟨b,0,none⟩))
 | vsuf (id sz i n c:Nat) (a:Option Addr) (h:ρ id=some (.slice a n c)) (hi:i≤n) (hn:n≤c):Rv w U ρ (.vsuf id sz i) (.slice (if c=i then a else a.map (·.add (i * sz))) (n - i) (c - i))

structure cK (w:World) (U:Nat→Prop) (ρ:Nat→Option Value) (cs:List AV) (vs:List Value):Prop where
 len:cs.length=vs.length
 rv:∀ (j:Nat) (c:AV) (v:Value),cs[j]?=some c→vs[j]?=some v→Rv w U ρ c v

theorem AF {w:World} {b o:Nat} {v:Value} (h:w.cell? ⟨b,o,none⟩=some v):b < w.heap.size:=by
 unfold World.cell? at h
 rcases Nat.lt_or_ge b w.heap.size with h' | h'
 ·exact h'
 ·simp [Array.getElem?_eq_none h'] at h

theorem Rv.mono {w w':World} {U U':Nat→Prop} {ρ ρ':Nat→Option Value} (hs:w.heap.size≤w'.heap.size)
  (hk:∀ b,b < w.heap.size→¬ U b→w'.heap[b]?=w.heap[b]?) (hu:∀ b,b < w.heap.size→U' b→U b) (hρ:∀ id v,ρ id=some v→ρ' id=some v)
  {c:AV} {v:Value} (h:Rv w U ρ c v):Rv w' U' ρ' c v:=by
 have hcell:∀ b o v,¬ U b→w.cell? ⟨b,o,none⟩=some v→w'.cell? ⟨b,o,none⟩=some v:=by
  intro b o v hb hc
  rw [World.cell?_of_block (hk b (AF hc) hb)]; exact hc
 induction h with
 | any v=>exact .any v
 | kb b=>exact .kb b
 | bool b=>exact .bool b
 | int k n h=>exact .int k n h
 | str s h=>exact .str s h
 | nils a=>exact .nils a
 | sl0 e a c=>exact .sl0 e a c
 | sl e l b o c vals hc hm hb hU hcl hr ih=>
  exact .sl e l b o c vals hc hm (lQ hb hs) (fun h=>hU (hu b hb h)) (fun i j hi hj=>hcell _ _ _ hU (hcl i j hi hj)) ih
 | vec id v h h1=>exact .vec id v (hρ _ _ h) h1
 | ptr id off b h=>exact .ptr id off b (hρ _ _ h)
 | vptr id sz i off b n c h=>exact .vptr id sz i off b n c (hρ _ _ h)
 | eptr cs off b o vals hb hU hcl h1 hr ih=>
  exact .eptr cs off b o vals (lQ hb hs) (fun h=>hU (hu b hb h)) (fun j hj=>hcell _ _ _ hU (hcl j hj)) h1 ih
 | nilp=>exact .nilp
 | agg cs vs hl h1 hr ih=>exact .agg cs vs hl h1 ih
 | tup cs vs hl hr ih=>exact .tup cs vs hl ih
 | clo fn fs cs vf vc hf hc hrf hrc ihf ihc=>exact .clo fn fs cs vf vc hf hc ihf ihc
 | nilf=>exact .nilf
 | mp id v h h1=>exact .mp id v (hρ _ _ h) h1
 | ifcN=>exact .ifcN
 | ifcS t v=>exact .ifcS t v
 | tab k zs b T fr hb hU=>
  have hlt:b < w.heap.size:=(ua.1 hb).1
  exact .tab k zs b T fr (by rw [hk b hlt hU]; exact hb) (fun h=>hU (hu b hlt h))
 | gint m b T fr hm hb hU=>
  have hlt:b < w.heap.size:=(ua.1 hb).1
  exact .gint m b T fr hm (by rw [hk b hlt hU]; exact hb) (fun h=>hU (hu b hlt h))
 | vsuf id sz i n c a h hi hn=>exact .vsuf id sz i n c a (hρ _ _ h) hi hn

theorem cK.mono {w w':World} {U U':Nat→Prop} {ρ ρ':Nat→Option Value} (hs:w.heap.size≤w'.heap.size)
  (hk:∀ b,b < w.heap.size→¬ U b→w'.heap[b]?=w.heap[b]?) (hu:∀ b,b < w.heap.size→U' b→U b) (hρ:∀ id v,ρ id=some v→ρ' id=some v)
  {cs:List AV} {vs:List Value} (h:cK w U ρ cs vs):cK w' U' ρ' cs vs:=
 ⟨h.len,fun j c v hc hv=>(h.rv j c v hc hv).mono hs hk hu hρ⟩

theorem Rv.weak {w:World} {U U':Nat→Prop} {ρ:Nat→Option Value} (hu:∀ b,U' b→U b) {c:AV} {v:Value} (h:Rv w U ρ c v):Rv w U' ρ c v:=
 h.mono (bd _) (fun _ _ _=>rfl) (fun b _=>hu b) (fun _ _ h=>h)

def AO.owns:AO→Bool
 | .box _ | .vec _ _ | .fmap _ | .vmap _ _ | .hol _ _ _ _=>true
 | _=>false

def c9:Value→Option Nat
 | .pointer (some a)=>some a.block
 | .slice (some a) _ c=>if c=0 then none else some a.block
 | .map (some r)=>some r
 | _=>none

def zO (ρ:Nat→Option Value) (id:Nat) (o:AO) (b:Nat):Prop:=o.owns=true∧∃ v,ρ id=some v∧c9 v=some b

def eV (k:Int×Int×zo):Value:=.agg #[.int .i64 k.1,.int .i64 k.2.1,.string ⟨k.2.2.toArray⟩]
def pi (k:Int×Int×zo):Prop:=ch .i64 k.1∧ch .i64 k.2.1∧k.2.2.length≤zC
def kZ (ents:Array MapEntry) (clock:Nat):Prop:=clock=ents.size∧∀ (i:Nat) (e:MapEntry),ents[i]?=some e→e.born=i
def pE (u:Bool) (n:Int):Value:=bif u then .agg #[] else .int .i64 n

def be (w:World) (U:Nat→Prop) (ρ:Nat→Option Value) (id:Nat):AO→Prop
 | .dead=>True
 | .box cs=>∃ b T vals,ρ id=some (.pointer (some ⟨b,0,none⟩))∧U b∧w.heap[b]?=some (.cells vals T (0,0))∧cK w U ρ cs vals.toList∧∀ v∈vals.toList,v.oneCell'=true
 | .vec e l=>∃ a c,ρ id=some (.slice a l.length c)∧l.length≤zC∧((l=[]∧c=0)∨∃ b T arr,a=some ⟨b,0,none⟩∧0 < c∧U b∧w.heap[b]?=some (.cells arr T (0,0))∧
   arr.size=c * e.size∧l.length≤c∧∀ i (hi:i < l.length) (j:Nat) (c:AV),(zn e l[i])[j]?=some c→∃ v,arr[i * e.size+j]?=some v∧Rv w U ρ c v)
 | .frz e l=>∃ v,ρ id=some v∧Rv w U ρ (.sl e l) v
 | .fmap es=>∃ r ents clock,ρ id=some (.map (some r))∧U r∧w.heap[r]?=some (.map ents clock)∧cK w U ρ (es.map (·.2)) (ents.toList.map (·.val))∧
   ents.toList.map (·.key)=es.map fun p=>Value.string ⟨p.1.toArray⟩
 | .vmap u es=>∃ r ents clock,ρ id=some (.map (some r))∧U r∧w.heap[r]?=some (.map ents clock)∧(ents.toList.map fun e=>(e.key,e.val))=(es.map fun p=>(eV p.1,pE u p.2))∧
   (∀ p∈es,ch .i64 p.2∧pi p.1)∧kZ ents clock
 | .hol e l i m=>∃ b T arr c,ρ id=some (.slice (some ⟨b,0,none⟩) l.length c)∧l.length≤zC∧i < l.length∧U b∧w.heap[b]?=some (.cells arr T (0,0))∧arr.size=c∧l.length≤c∧
   (∀ k (hk:k < l.length),k≠i→∃ v,arr[k]?=some v∧Rv w U ρ (.sl e l[k]) v)∧∃ v,arr[i]?=some v∧Rv w U ρ (.vec m) v

theorem be.mono {w w':World} {U U':Nat→Prop} {ρ ρ':Nat→Option Value} (hs:w.heap.size≤w'.heap.size)
  (hk:∀ b,b < w.heap.size→¬ U b→w'.heap[b]?=w.heap[b]?) (hu:∀ b,b < w.heap.size→U' b→U b) (hρ:∀ id v,ρ id=some v→ρ' id=some v)
  {id:Nat} {o:AO} (h:be w U ρ id o) (hown:∀ b,zO ρ id o b→w'.heap[b]?=w.heap[b]?∧U' b):be w' U' ρ' id o:=by
 cases o with
 | dead=>trivial
 | box cs=>
  obtain ⟨b,T,vals,h1,h2,h3,h4,h5⟩:=h
  have:=hown b ⟨rfl,_,h1,rfl⟩
  exact ⟨b,T,vals,hρ _ _ h1,this.2,by rw [this.1]; exact h3,h4.mono hs hk hu hρ,h5⟩
 | vec e l=>
  obtain ⟨a,c,h1,h2,h3⟩:=h
  refine ⟨a,c,hρ _ _ h1,h2,?_⟩
  rcases h3 with h3 | ⟨b,T,arr,rfl,hc,hU,hb,hsz,hle,hr⟩
  ·exact .inl h3
  ·have:=hown b ⟨rfl,_,h1,by simp [c9]; omega⟩
   refine .inr ⟨b,T,arr,rfl,hc,this.2,by rw [this.1]; exact hb,hsz,hle,fun i hi j c hx=>?_⟩
   obtain ⟨v,hv,hrv⟩:=hr i hi j c hx
   exact ⟨v,hv,hrv.mono hs hk hu hρ⟩
 | frz e l=>
  obtain ⟨v,h1,h2⟩:=h
  exact ⟨v,hρ _ _ h1,h2.mono hs hk hu hρ⟩
 | fmap es=>
  obtain ⟨r,ents,clock,h1,h2,h3,h4,h5⟩:=h
  have:=hown r ⟨rfl,_,h1,rfl⟩
  exact ⟨r,ents,clock,hρ _ _ h1,this.2,by rw [this.1]; exact h3,h4.mono hs hk hu hρ,h5⟩
 | vmap u es=>
  obtain ⟨r,ents,clock,h1,h2,h3,h4,h5⟩:=h
  have:=hown r ⟨rfl,_,h1,rfl⟩
  exact ⟨r,ents,clock,hρ _ _ h1,this.2,by rw [this.1]; exact h3,h4,h5⟩
 | hol e l i m=>
  obtain ⟨b,T,arr,c,h1,h2,h3,h4,h5,h6,h7,h8,v,h9,h10⟩:=h
  have:=hown b ⟨rfl,_,h1,by simp [c9]; omega⟩
  refine ⟨b,T,arr,c,hρ _ _ h1,h2,h3,this.2,by rw [this.1]; exact h5,h6,h7,fun k hk hki=>?_,v,h9,h10.mono hs hk hu hρ⟩
  obtain ⟨x,hx,hrx⟩:=h8 k hk hki
  exact ⟨x,hx,hrx.mono hs (by assumption) hu hρ⟩

theorem be.inU {w:World} {U:Nat→Prop} {ρ:Nat→Option Value} {id:Nat} {o:AO} (h:be w U ρ id o) {b:Nat} (hb:zO ρ id o b):U b∧b < w.heap.size:=by
 obtain ⟨ho,v,hv,hbv⟩:=hb
 cases o with
 | dead=>simp [AO.owns] at ho
 | frz e l=>simp [AO.owns] at ho
 | box cs=>
  obtain ⟨b',T,vals,h1,h2,h3,h4,h5⟩:=h
  rw [h1] at hv; cases hv
  simp [c9] at hbv; subst hbv
  exact ⟨h2,(ua.1 h3).1⟩
 | vec e l=>
  obtain ⟨a,c,h1,h2,h3⟩:=h
  rw [h1] at hv; cases hv
  rcases h3 with ⟨_,rfl⟩ | ⟨b',T,arr,rfl,hc,hU,hb',_⟩
  ·cases a <;> simp [c9] at hbv
  ·simp [c9] at hbv
   obtain ⟨_,rfl⟩:=hbv
   exact ⟨hU,(ua.1 hb').1⟩
 | fmap es=>
  obtain ⟨r,ents,clock,h1,h2,h3,h4,h5⟩:=h
  rw [h1] at hv; cases hv
  simp [c9] at hbv; subst hbv
  exact ⟨h2,(ua.1 h3).1⟩
 | vmap u es=>
  obtain ⟨r,ents,clock,h1,h2,h3,h4,h5⟩:=h
  rw [h1] at hv; cases hv
  simp [c9] at hbv; subst hbv
  exact ⟨h2,(ua.1 h3).1⟩
 | hol e l i m=>
  obtain ⟨b',T,arr,c,h1,h2,h3,h4,h5,h6⟩:=h
  rw [h1] at hv; cases hv
  simp [c9] at hbv
  obtain ⟨_,rfl⟩:=hbv
  exact ⟨h4,(ua.1 h5).1⟩

theorem zN:∀ (s:Sh) (x:Sem s),(zn s x).length=s.size
 | .unit,_=>rfl
 | .bool,_=>rfl
 | .int _,_=>rfl
 | .str,_=>rfl
 | .sl _,_=>rfl
 | .pr a b,x=>by simp [zn,Sh.size,zN a,zN b]
 | .expr,_=>rfl

theorem s6 {w:World} {U U':Nat→Prop} {ρ:Nat→Option Value} {hp:Nat→AO} {e:Sh} {c:AV} {l:List (Sem e)} {v:Value}
  (h:xw hp e c=some l) (hr:Rv w U ρ c v) (hu:∀ b,U' b→U b)
  (hob:∀ id∈bw c,be w U ρ id (hp id)) (hof:∀ id∈bw c,∀ b,zO ρ id (hp id) b→¬ U' b):Rv w U' ρ (.sl e l) v:=by
 cases c <;> simp [xw] at h
 case nils=>
  subst h
  cases hr
  exact .sl0 e _ _
 case sl e' l'=>
  obtain ⟨rfl,h⟩:=h
  subst h
  exact hr.weak hu
 case vec id=>
  cases hr with
  | vec _ _ hv _=>
  have h1:=hob id (by simp [bw])
  have h2:=hof id (by simp [bw])
  cases ho:hp id with
  | dead=>simp [ho] at h
  | box cs=>simp [ho] at h
  | fmap es=>simp [ho] at h
  | vmap u es=>simp [ho] at h
  | hol e l i m=>simp [ho] at h
  | frz e' l'=>
   simp [ho] at h
   obtain ⟨rfl,h⟩:=h
   subst h
   rw [ho] at h1
   obtain ⟨v',hv',hrv⟩:=h1
   rw [hv] at hv'; cases hv'
   exact hrv.weak hu
  | vec e' l'=>
   simp [ho] at h
   obtain ⟨rfl,h⟩:=h
   subst h
   rw [ho] at h1 h2
   obtain ⟨a,c,hv',hm,h3⟩:=h1
   rw [hv] at hv'; cases hv'
   rcases h3 with ⟨hl,hc⟩ | ⟨b,T,arr,rfl,hc,hU,hb,hsz,hle,hrr⟩
   ·show Rv w U' ρ (.sl e' l') _
    subst hl
    exact .sl0 e' _ _
   ·show Rv w U' ρ (.sl e' l') _
    have hnb:¬ U' b:=h2 b ⟨rfl,_,hv,by simp [c9]; omega⟩
    have hblt:=(ua.1 hb).1
    refine .sl e' l' b 0 c (fun i j=>(arr[i * e'.size+j]?).getD undef) hle hm hblt hnb (fun i j hi hj=>?_) (fun i hi j cc hx=>?_)
    ·have hlt:i * e'.size+j < arr.size:=by
      rw [hsz]
      have:(i+1) * e'.size≤c * e'.size:=cN _ (by omega)
      rw [ee] at this
      omega
     simp [World.cell?,hb,gZ hlt]
    ·obtain ⟨v,hv1,hrv⟩:=hrr i hi j cc hx
     simp [hv1]
     exact hrv.weak hu

theorem gK {w:World} {U U':Nat→Prop} {ρ:Nat→Option Value} {hp:Nat→AO} (hu:∀ b,U' b→U b):
  ∀ (s:Sh) (cs:List AV) (x:Sem s) (r:List AV) (vals:Nat→Value),cm hp s cs=some (x,r)→
   (∀ (j:Nat) (c:AV),cs[j]?=some c→Rv w U ρ c (vals j))→(∀ id∈cs.flatMap bw,be w U ρ id (hp id)∧∀ b,zO ρ id (hp id) b→¬ U' b)→
   cs.length=s.size+r.length∧r=cs.drop s.size∧∀ (j:Nat) (c:AV),(zn s x)[j]?=some c→Rv w U' ρ c (vals j):=by
 intro s
 induction s with
 | unit=>
  intro cs x r vals h hr hob
  simp [cm] at h
  subst h
  refine ⟨by simp [Sh.size],by simp [Sh.size],by simp [zn]⟩
 | bool=>
  intro cs x r vals h hr hob
  cases cs with
  | nil=>simp [cm] at h
  | cons c cs=>
   cases c <;> simp [cm] at h <;> (obtain ⟨rfl,rfl⟩:=h) <;> refine ⟨by simp [Sh.size]; omega,by simp [Sh.size],?_⟩
   all_goals
    intro j c hj
    cases j with
    | succ j=>simp [zn] at hj
    | zero=>
     simp [zn] at hj; subst hj
     have:=hr 0 _ rfl
     generalize vals 0=v at this
     cases this
     exact .bool _
 | int k=>
  intro cs x r vals h hr hob
  cases cs with
  | nil=>simp [cm] at h
  | cons c cs=>
   cases c <;> simp [cm] at h
   obtain ⟨rfl,rfl,rfl⟩:=h
   refine ⟨by simp [Sh.size]; omega,by simp [Sh.size],?_⟩
   intro j c hj
   cases j with
   | succ j=>simp [zn] at hj
   | zero=>
    simp [zn] at hj; subst hj
    exact (hr 0 _ rfl).weak hu
 | str=>
  intro cs x r vals h hr hob
  cases cs with
  | nil=>simp [cm] at h
  | cons c cs=>
   cases c <;> simp [cm] at h
   obtain ⟨rfl,rfl⟩:=h
   refine ⟨by simp [Sh.size]; omega,by simp [Sh.size],?_⟩
   intro j c hj
   cases j with
   | succ j=>simp [zn] at hj
   | zero=>
    simp [zn] at hj; subst hj
    exact (hr 0 _ rfl).weak hu
 | sl e ih=>
  intro cs x r vals h hr hob
  cases cs with
  | nil=>simp [cm] at h
  | cons c cs=>
   simp only [cm] at h
   split at h
   ·rename_i l hl
    cases h
    refine ⟨by simp [Sh.size]; omega,by simp [Sh.size],?_⟩
    intro j c hj
    cases j with
    | succ j=>simp [zn] at hj
    | zero=>
     simp [zn] at hj; subst hj
     exact s6 hl (hr 0 _ rfl) hu (fun id hid=>(hob id (by simp [hid])).1) (fun id hid=>(hob id (by simp [hid])).2)
   ·cases h
 | pr a b iha ihb=>
  intro cs x r vals h hr hob
  simp only [cm] at h
  split at h
  ·rename_i x1 r1 h1
   split at h
   ·rename_i x2 r2 h2
    cases h
    obtain ⟨l1,e1,g1⟩:=iha cs x1 r1 vals h1 hr hob
    subst e1
    obtain ⟨l2,e2,g2⟩:=ihb _ x2 r (fun j=>vals (a.size+j)) h2 (fun j c hj=>by
      rw [jI] at hj; exact hr _ _ hj)
     (fun id hid=>hob id (by
      simp only [Cx] at hid ⊢
      obtain ⟨c,hc,hid⟩:=hid
      exact ⟨c,List.mem_of_mem_drop hc,hid⟩))
    refine ⟨?_,?_,?_⟩
    ·simp [Sh.size] at *; omega
    ·rw [e2,List.drop_drop]; simp [Sh.size]
    ·intro j c hj
     simp only [zn] at hj
     by_cases hlt:j < a.size
     ·rw [j6 (by rw [zN]; exact hlt)] at hj
      exact g1 j c hj
     ·rw [lc (by rw [zN]; omega),zN] at hj
      have:=g2 _ c hj
      rwa [show a.size+(j - a.size)=j by omega] at this
   ·cases h
  ·cases h
 | expr=>
  intro cs x r vals h hr hob
  simp only [cm] at h
  unfold Dn at h
  split at h <;> try (cases h; done)
  rename_i op k i vs s c r'
  split at h
  ·rename_i l hl
   cases h
   refine ⟨by simp [Sh.size]; omega,by simp [Sh.size],?_⟩
   intro j c' hj
   match j with
   | 0=>simp [zn,ze.op] at hj; subst hj; exact (hr 0 _ rfl).weak hu
   | 1=>simp [zn,ze.v] at hj; subst hj; exact (hr 1 _ rfl).weak hu
   | 2=>simp [zn,ze.v] at hj; subst hj; exact (hr 2 _ rfl).weak hu
   | 3=>simp [zn,ze.v] at hj; subst hj; exact (hr 3 _ rfl).weak hu
   | 4=>simp [zn,ze.s] at hj; subst hj; exact (hr 4 _ rfl).weak hu
   | 5=>
    simp [zn,ze.l] at hj; subst hj
    exact s6 hl (hr 5 _ rfl) hu (fun id hid=>(hob id (by simp [hid])).1) (fun id hid=>(hob id (by simp [hid])).2)
   | j+6=>simp [zn] at hj
  ·cases h


@[simp] theorem Tr.val_bind {α β:Type} (t:Tr α) (k:α→Tr β):(t.bind k).val=t.val.bind fun a=>(k a).val:=by
 induction t with
 | err=>rfl
 | chk c t ih=>cases c <;> simp [Tr.bind,Tr.val,ih]
 | br c t f iht ihf=>cases c <;> simp [Tr.bind,Tr.val,iht,ihf]
 | ok a=>rfl
@[simp] theorem Tr.val_err {α:Type}:(Tr.err:Tr α).val=none:=rfl
@[simp] theorem Tr.val_ok {α:Type} (a:α):(Tr.ok a).val=some a:=rfl
@[simp] theorem Tr.val_chk {α:Type} (c:Bool) (t:Tr α) (a:α):(Tr.chk c t).val=some a↔c=true∧t.val=some a:=by cases c <;> simp [Tr.val]
@[simp] theorem zfF (v:AV) (f:ew):(ret v).val=some f↔f={ val:=v }:=by simp [ret,eq_comm]
@[simp] theorem zfr (v:Option AV) (f:ew):(wH v).val=some f↔∃ x,v=some x∧f={ val:=x }:=by
 cases v <;> simp [wH]

section
variable {P:Program} {w:World} {U:Nat→Prop} {ρ:Nat→Option Value}

theorem bz {t:TypeId} {n:Nat} (h:dL P t=some n) (w:World):(Go.sizeOf t).run P w=.ok n w:=by
 unfold dL at h
 cases hi:P.info? t with
 | none=>simp [hi] at h
 | some i=>simp [hi] at h; simp [Go.sizeOf,typeInfo,hi,h]

theorem iq {t:TypeId} {b:Bool} (h:w7 P t=some b) (w:World):(isAgg t).run P w=.ok b w:=by
 unfold w7 at h
 cases hu:P.underlying t with
 | none=>simp [hu] at h
 | some d=>cases d <;> simp [hu] at h <;> subst h <;> simp [isAgg,aW hu]

theorem Addr.add_none (b o n:Nat):(⟨b,o,none⟩:Addr).add n=⟨b,o+n,none⟩:=by
 unfold Addr.add; split <;> simp_all

theorem nJ {n j k:Nat} (h:(List.range n)[j]?=some k):j < n∧k=j:=by
 obtain ⟨h1,h2⟩:=bM.1 h
 simp at h1 h2
 exact ⟨h1,h2.symm⟩

theorem lA {t:TypeId} {cs:List AV} {off:Nat} {r:AV} {b o:Nat} {vals:Nat→Value} (h:mN P t cs off=some r)
  (hcell:∀ j,j < cs.length→w.cell? ⟨b,o+j,none⟩=some (vals j)) (h1:∀ j,j < cs.length→(vals j).oneCell'=true)
  (hr:∀ (j:Nat) (c:AV),cs[j]?=some c→Rv w U ρ c (vals j)):
  ∃ x,(loadVar t ⟨b,o+off,none⟩).run P w=.ok x w∧Rv w U ρ r x:=by
 unfold mN at h
 split at h
 ·rename_i n ha hn
  split at h
  ·rename_i hle
   cases h
   refine ⟨.agg ((List.range n).map fun j=>vals (off+j)).toArray,?_,?_⟩
   ·have:=run_loadCells_list (P:=P) w ⟨b,o+off,none⟩ ((List.range n).map fun j=>vals (off+j)) (fun j v hv=>by
     rw [Addr.add_none]
     simp only [de,dI] at hv
     obtain ⟨j',hj,rfl⟩:=hv
     obtain ⟨hlt,hjj⟩:=nJ hj
     subst hjj
     rw [show o+off+j'=o+(off+j') by omega]
     exact hcell _ (by omega))
    simp only [ye,List.length_range] at this
    simp [loadVar,iq ha,bz hn,this]
   ·refine .agg _ _ (by simp; omega) (fun v hv=>?_) (fun j c v hc hv=>?_)
    ·simp only [fe,uh] at hv
     obtain ⟨j,hj,rfl⟩:=hv
     exact h1 _ (by omega)
    ·simp only [de,dI] at hv
     obtain ⟨j',hj,rfl⟩:=hv
     obtain ⟨hlt,hjj⟩:=nJ hj
     subst hjj
     rw [uc,if_pos hlt,jI] at hc
     exact hr _ _ hc
  ·cases h
 ·rename_i ha
  have hlt:off < cs.length:=(bM.1 h).1
  refine ⟨vals off,?_,hr _ _ h⟩
  simp [loadVar,iq ha,hcell off hlt]
 ·cases h

theorem Rv.sl_one {e:Sh} {l:List (Sem e)} {v:Value} (h:Rv w U ρ (.sl e l) v):v.oneCell'=true:=by
 cases h <;> rfl

theorem ie:∀ (e:Sh) (x:Sem e) (j:Nat) (c:AV) (v:Value),(zn e x)[j]?=some c→Rv w U ρ c v→v.oneCell'=true
 | .unit,_,_,_,_,h,_=>by simp [zn] at h
 | .bool,_,0,_,_,h,hr=>by simp [zn] at h; subst h; cases hr; rfl
 | .int _,_,0,_,_,h,hr=>by simp [zn] at h; subst h; cases hr; rfl
 | .str,_,0,_,_,h,hr=>by simp [zn] at h; subst h; cases hr; rfl
 | .sl _,_,0,_,_,h,hr=>by simp [zn] at h; subst h; cases hr <;> rfl
 | .bool,_,_+1,_,_,h,_=>by simp [zn] at h
 | .int _,_,_+1,_,_,h,_=>by simp [zn] at h
 | .str,_,_+1,_,_,h,_=>by simp [zn] at h
 | .sl _,_,_+1,_,_,h,_=>by simp [zn] at h
 | .pr a b,x,j,c,v,h,hr=>by
  simp only [zn] at h
  rcases Nat.lt_or_ge j (zn a x.1).length with hl | hl
  ·rw [j6 hl] at h
   exact ie a _ _ _ _ h hr
  ·rw [lc hl] at h
   exact ie b _ _ _ _ h hr
 | .expr,x,j,c,v,h,hr=>by
  match j with
  | 0=>simp [zn] at h; subst h; cases hr; rfl
  | 1=>simp [zn] at h; subst h; cases hr; rfl
  | 2=>simp [zn] at h; subst h; cases hr; rfl
  | 3=>simp [zn] at h; subst h; cases hr; rfl
  | 4=>simp [zn] at h; subst h; cases hr; rfl
  | 5=>simp [zn] at h; subst h; exact hr.sl_one
  | _+6=>simp [zn] at h

theorem eA {av:AV} {cs:List AV} {v:Value} (h:cellsOf av=some cs) (hr:Rv w U ρ av v):
  cK w U ρ cs v.cells.toList∧∀ x∈v.cells.toList,x.oneCell'=true:=by
 have one:∀ {av:AV},v.oneCell'=true→Rv w U ρ av v→cK w U ρ [av] v.cells.toList∧∀ x∈v.cells.toList,x.oneCell'=true:=by
  intro av h1 hr
  have:v.cells = #[v]:=by cases v <;> simp [Value.oneCell'] at h1 <;> rfl
  rw [this]
  refine ⟨⟨rfl,fun j c x hc hx=>?_⟩,by simpa using h1⟩
  cases j with
  | zero=>simp at hc hx; subst hc; subst hx; exact hr
  | succ j=>simp at hc
 cases hr with
 | any v=>simp [cellsOf] at h
 | tup cs vs hl hr=>simp [cellsOf] at h
 | agg cs' vs hl h1 hr=>
  simp [cellsOf] at h; subst h
  exact ⟨⟨by simp [Value.cells,hl],fun j c v hc hv=>hr j c v hc (by simpa [Value.cells] using hv)⟩,by simpa [Value.cells] using h1⟩
 | kb b=>simp [cellsOf] at h; subst h; exact one rfl (.kb b)
 | bool b=>simp [cellsOf] at h; subst h; exact one rfl (.bool b)
 | int k n hk=>simp [cellsOf] at h; subst h; exact one rfl (.int k n hk)
 | str s hs=>simp [cellsOf] at h; subst h; exact one rfl (.str s hs)
 | nils a=>simp [cellsOf] at h; subst h; exact one rfl (.nils a)
 | sl0 e a c=>simp [cellsOf] at h; subst h; exact one rfl (.sl0 e a c)
 | sl e l b o c vals hc hm hb hU hcell hr=>simp [cellsOf] at h; subst h; exact one rfl (.sl e l b o c vals hc hm hb hU hcell hr)
 | vec id v hv h1=>simp [cellsOf] at h; subst h; exact one h1 (.vec id v hv h1)
 | ptr id off b hb=>simp [cellsOf] at h; subst h; exact one rfl (.ptr id off b hb)
 | vptr id sz i off b n c hb=>simp [cellsOf] at h; subst h; exact one rfl (.vptr id sz i off b n c hb)
 | eptr cs off b o vals hb hU hcell h1 hr=>simp [cellsOf] at h; subst h; exact one rfl (.eptr cs off b o vals hb hU hcell h1 hr)
 | nilp=>simp [cellsOf] at h; subst h; exact one rfl .nilp
 | clo fn fs cs vf vc hf hc hrf hrc=>simp [cellsOf] at h; subst h; exact one rfl (.clo fn fs cs vf vc hf hc hrf hrc)
 | nilf=>simp [cellsOf] at h; subst h; exact one rfl .nilf
 | mp id v hv h1=>simp [cellsOf] at h; subst h; exact one h1 (.mp id v hv h1)
 | ifcN=>simp [cellsOf] at h; subst h; exact one rfl .ifcN
 | ifcS t v=>simp [cellsOf] at h; subst h; exact one rfl (.ifcS t v)
 | tab k zs b T fr hb hU=>simp [cellsOf] at h; subst h; exact one rfl (.tab k zs b T fr hb hU)
 | gint m b T fr hm hb hU=>simp [cellsOf] at h; subst h; exact one rfl (.gint m b T fr hm hb hU)
 | vsuf id sz i n c a hb hi hn=>simp [cellsOf] at h

theorem In {b:Nat} {vals:Array Value} {T:TypeId} {fz:Nat×Nat} (h:w.heap[b]?=some (.cells vals T fz)) (j:Nat) (hj:j < vals.size):
  w.cell? ⟨b,j,none⟩=some (vals.toList.getD j undef):=by
 simp [World.cell?,h,gZ hj,List.getD]

theorem yX {hp:Nat→AO} {t:TypeId} {av:AV} {v:Value} {f:ew} (h:(Bd P hp t av).val=some f) (hv:Rv w U ρ av v)
  (hob:∀ id∈av.ids,be w U ρ id (hp id)):∃ r x,f={ val:=r }∧(Instr.loadAt t v).run P w=.ok x w∧Rv w U ρ r x:=by
 unfold Bd at h
 split at h
 ·rename_i id off
  cases hv with
  | ptr _ _ b hb=>
  have ho:=hob id (by simp [AV.ids])
  split at h
  ·rename_i cs hcs
   rw [hcs] at ho
   obtain ⟨b',T,vals,h1,h2,h3,h4,h5⟩:=ho
   rw [hb] at h1; cases h1
   simp at h
   obtain ⟨r,hr,rfl⟩:=h
   obtain ⟨x,hx,hrx⟩:=lA (w:=w) (U:=U) (ρ:=ρ) (b:=b) (o:=0) (vals:=fun j=>vals.toList.getD j undef) hr
    (fun j hj=>by rw [ez]; exact In h3 j (by rw [h4.len] at hj; simpa using hj))
    (fun j hj=>h5 _ (by
     rw [h4.len] at hj
     rw [aJ,zJ hj]; simp))
    (fun j c hc=>h4.rv j c _ hc (by
     have hj:j < vals.toList.length:=by rw [← h4.len]; exact (bM.1 hc).1
     rw [aJ,zJ hj]; simp))
   rw [ez] at hx
   exact ⟨r,x,rfl,by simp [Instr.loadAt,Instr.sureAddr,hx],hrx⟩
  ·simp at h
 ·rename_i cs off
  cases hv with
  | eptr _ _ b o vals hb hU hcell h1 hr=>
  simp at h
  obtain ⟨r,hrr,rfl⟩:=h
  obtain ⟨x,hx,hrx⟩:=lA (w:=w) (U:=U) (ρ:=ρ) hrr hcell h1 hr
  exact ⟨r,x,rfl,by simp [Instr.loadAt,Instr.sureAddr,hx],hrx⟩
 ·rename_i id sz i off
  cases hv with
  | vptr _ _ _ _ b n c hb=>
  have ho:=hob id (by simp [AV.ids])
  split at h
  ·rename_i e l hcs
   rw [hcs] at ho
   obtain ⟨a,c',h1,hm,h3⟩:=ho
   rw [hb] at h1; cases h1
   split at h
   ·rename_i hsz
    subst hsz
    simp at h
    obtain ⟨hi,r,hr,rfl⟩:=h
    rcases h3 with ⟨rfl,_⟩ | ⟨b',T,arr,hba,hc,hU,hbb,hsz,hle,hrr⟩
    ·simp at hi
    ·cases hba
     have hget:l[i]?.getD (zj e)=l[i]:=by simp [zJ hi]
     rw [hget] at hr
     have hcells:∀ j,j < (zn e l[i]).length→∃ v c,arr[i * e.size+j]?=some v∧(zn e l[i])[j]?=some c∧Rv w U ρ c v:=by
      intro j hj
      obtain ⟨v,h1,h2⟩:=hrr i hi j _ (zJ hj)
      exact ⟨v,_,h1,zJ hj,h2⟩
     obtain ⟨x,hx,hrx⟩:=lA (w:=w) (U:=U) (ρ:=ρ) (b:=b) (o:=i * e.size) (vals:=fun j=>(arr[i * e.size+j]?).getD undef) hr
      (fun j hj=>by
       obtain ⟨v,c,h1,h2,h3⟩:=hcells j hj
       simp [World.cell?,hbb,h1])
      (fun j hj=>by
       obtain ⟨v,c,h1,h2,h3⟩:=hcells j hj
       simp only [h1,bP]
       exact ie _ _ _ _ _ h2 h3)
      (fun j c hc=>by
       obtain ⟨v,c',h1,h2,h3⟩:=hcells j (bM.1 hc).1
       rw [hc] at h2; cases h2
       simpa only [h1,bP] using h3)
     exact ⟨r,x,rfl,by simp [Instr.loadAt,Instr.sureAddr,hx],hrx⟩
   ·simp at h
  ·rename_i e l j m hcs
   rw [hcs] at ho
   obtain ⟨b',T,arr,c',h1,hm,hj,hU,hbb,hsz,hle,hrr,v,hv,hrv⟩:=ho
   rw [hb] at h1; cases h1
   split at h
   ·rename_i hs1
    subst hs1
    simp at h
    obtain ⟨rfl,r,hr,rfl⟩:=h
    have h1:v.oneCell'=true:=by cases hrv; assumption
    obtain ⟨x,hx,hrx⟩:=lA (w:=w) (U:=U) (ρ:=ρ) (b:=b) (o:=i * 1) (vals:=fun j=>(arr[i * 1+j]?).getD undef) hr
     (fun j hj=>by
      obtain rfl:j=0:=by simpa using hj
      simp [World.cell?,hbb,hv])
     (fun j hj=>by
      obtain rfl:j=0:=by simpa using hj
      simpa [hv] using h1)
     (fun j c hc=>by
      obtain rfl:j=0:=by have:=(bM.1 hc).1; simpa using this
      simp at hc; subst hc
      simpa [hv] using hrv)
    rw [Nat.mul_one] at hx
    exact ⟨r,x,rfl,by simp [Instr.loadAt,Instr.sureAddr,hx],hrx⟩
   ·simp at h
  ·simp at h
 ·simp at h

theorem E8 {t:TypeId} {fl:Nat} {av:AV} {v:Value} {f:ew} (h:(Bb P t fl av).val=some f) (hv:Rv w U ρ av v):
  ∃ r x,f={ val:=r }∧(Instr.fieldAt t v fl).run P w=.ok x w∧Rv w U ρ r x:=by
 unfold Bb at h
 split at h
 ·rename_i fd hfd
  unfold te at hfd
  split at hfd
  ·rename_i fs hu
   split at h
   ·rename_i k hk
    have hplace:∀ a:Addr,(fieldPlace a fd).run P w=.ok (a.add fd.offset) w:=by
     intro a
     simp [fieldPlace,bz hk]
    split at h
    ·rename_i id off
     cases hv with
     | ptr _ _ b hb=>
     simp at h; subst h
     exact ⟨_,_,rfl,by simp [Instr.fieldAt,aW hu,hfd,Instr.sureAddr,hplace,Addr.add_none],.ptr id (off+fd.offset) b hb⟩
    ·rename_i cs off
     cases hv with
     | eptr _ _ b o vals hb hU hcell h1 hr=>
     simp at h; subst h
     refine ⟨_,_,rfl,by simp [Instr.fieldAt,aW hu,hfd,Instr.sureAddr,hplace,Addr.add_none]; rfl,?_⟩
     rw [Nat.add_assoc]
     exact .eptr cs (off+fd.offset) b o vals hb hU hcell h1 hr
    ·rename_i id sz i off
     cases hv with
     | vptr _ _ _ _ b n c hb=>
     simp at h; subst h
     refine ⟨_,_,rfl,by simp [Instr.fieldAt,aW hu,hfd,Instr.sureAddr,hplace,Addr.add_none]; rfl,?_⟩
     rw [Nat.add_assoc]
     exact .vptr id sz i (off+fd.offset) b n c hb
    ·simp at h
   ·simp at h
  ·cases hfd
 ·simp at h

theorem gU {k:Int} {n:Nat}:zI k n=true↔0≤k∧k < n:=by simp [zI]

theorem Gw {k:Int} {g:Nat→AV} {e:ew}:∀ (n i:Nat),(Ik k g i n).val=some e→(i:Int)≤k→k < i+n→e={ val:=g k.toNat }
 | 0,_,h,_,_=>by simp [Ik] at h
 | 1,i,h,h1,h2=>by
  have:k.toNat=i:=by omega
  simp [Ik] at h
  rw [this]; first | exact h | exact h.symm
 | n+2,i,h,h1,h2=>by
  rw [Ik,Tr.val] at h
  split at h
  ·rename_i hk
   have hk:k=i:=by simpa using hk
   have:k.toNat=i:=by omega
   simp at h
   rw [this]; first | exact h | exact h.symm
  ·rename_i hk
   have hk:k≠i:=by simpa using hk
   exact Gw (n+1) (i+1) h (by omega) (by omega)

theorem vG {hp:Nat→AO} {t:TypeId} {ax ai:AV} {vx vi:Value} {f:ew} (h:(mA P hp t ax ai).val=some f)
  (hx:Rv w U ρ ax vx) (hi:Rv w U ρ ai vi) (hob:∀ id∈ax.ids,be w U ρ id (hp id)):
  ∃ r x,f={ val:=r }∧(Instr.indexAt t vx vi).run P w=.ok x w∧Rv w U ρ r x:=by
 have pure_sl:∀ (e:Sh) (l:List (Sem e)) (k:Int) (ik:IntKind) (elem:TypeId),P.underlying t=some (.slice elem)→dL P elem=some e.size→0≤k→k < l.length→
   Rv w U ρ (.sl e l) vx→∃ x,(Instr.indexAt t vx (.int ik k)).run P w=.ok x w∧Rv w U ρ (.eptr (zn e (l.getD k.toNat (zj e))) 0) x:=by
  intro e l k ik elem hu hsz h0 h1 hr
  cases hr with
  | sl0 _ a c=>simp at h1; omega
  | sl _ _ b o c vals hc hm hb hU hcell hrr=>
   have hlt:k.toNat < l.length:=by omega
   refine ⟨.pointer (some ⟨b,o+k.toNat * e.size+0,none⟩),?_,?_⟩
   ·simp [Instr.indexAt,asIntOf,aW hu,h0,h1,bz hsz,Addr.add_none]
   ·have hget:l.getD k.toNat (zj e)=l[k.toNat]:=by simp [List.getD,zJ hlt]
    rw [hget]
    exact .eptr _ 0 b (o+k.toNat * e.size) (fun j=>vals k.toNat j) hb hU (fun j hj=>hcell _ _ hlt (by rwa [zN] at hj))
     (fun j hj=>ie _ _ j _ _ (zJ hj) (hrr _ hlt j _ (zJ hj))) (fun j c hc=>hrr _ hlt j c hc)
 unfold mA at h
 split at h
 ·rename_i ik k
  cases hi
  split at h
  ·rename_i elem hu
   split at h
   ·rename_i e l
    split at h
    ·rename_i hsz
     simp [gU] at h
     obtain ⟨⟨h0,h1⟩,rfl⟩:=h
     obtain ⟨x,h2,h3⟩:=pure_sl e l k ik elem hu hsz h0 h1 hx
     exact ⟨_,x,rfl,h2,h3⟩
    ·simp at h
   ·rename_i id
    have ho:=hob id (by simp [AV.ids])
    split at h
    ·rename_i e l hcs
     rw [hcs] at ho
     split at h
     ·rename_i hsz
      simp [gU] at h
      obtain ⟨⟨h0,h1⟩,rfl⟩:=h
      obtain ⟨a,c',hr,hm,h3⟩:=ho
      cases hx with
      | vec _ _ hv _=>
      rw [hr] at hv; cases hv
      rcases h3 with ⟨rfl,_⟩ | ⟨b',T,arr,rfl,hc,hU,hbb,hsz',hle,hrr⟩
      ·simp at h1; omega
      ·refine ⟨_,.pointer (some ⟨b',k.toNat * e.size+0,none⟩),rfl,?_,.vptr id e.size k.toNat 0 b' _ _ hr⟩
       simp [Instr.indexAt,asIntOf,aW hu,h0,h1,bz hsz,Addr.add_none]
     ·simp at h
    ·rename_i e l hcs
     rw [hcs] at ho
     split at h
     ·rename_i hsz
      simp [gU] at h
      obtain ⟨⟨h0,h1⟩,rfl⟩:=h
      obtain ⟨v',hv',hrv⟩:=ho
      cases hx with
      | vec _ _ hv _=>
      rw [hv] at hv'; cases hv'
      obtain ⟨x,h2,h3⟩:=pure_sl e l k ik elem hu hsz h0 h1 hrv
      exact ⟨_,x,rfl,h2,h3⟩
     ·simp at h
    ·rename_i e l j m hcs
     rw [hcs] at ho
     split at h
     ·rename_i hsz
      simp [gU] at h
      obtain ⟨⟨h0,h1⟩,rfl⟩:=h
      obtain ⟨b',T,arr,c',hr,_⟩:=ho
      cases hx with
      | vec _ _ hv _=>
      rw [hr] at hv; cases hv
      refine ⟨_,.pointer (some ⟨b',k.toNat * 1+0,none⟩),rfl,?_,.vptr id 1 k.toNat 0 b' _ _ hr⟩
      simp [Instr.indexAt,asIntOf,aW hu,h0,h1,bz hsz,Addr.add_none]
     ·simp at h
    ·simp at h
   ·simp at h
  ·rename_i len elem hu
   split at h
   ·rename_i sz hsz
    split at h
    ·rename_i id off
     simp [gU] at h
     obtain ⟨⟨h0,h1⟩,rfl⟩:=h
     cases hx with
     | ptr _ _ b hb=>
     refine ⟨_,_,rfl,?_,.ptr id (off+k.toNat * sz) b hb⟩
     simp [Instr.indexAt,asIntOf,aW hu,h0,h1,bz hsz,Addr.add_none,Instr.sureAddr]
    ·rename_i cs off
     simp only [Tr.val] at h
     split at h
     rotate_left
     ·cases h
     rename_i hin
     obtain ⟨h0,h1⟩:=gU.1 hin
     have h:=Gw _ _ h (by omega) (by omega)
     subst h
     cases hx with
     | eptr _ _ b o vals hb hU hcell hone hr=>
     refine ⟨_,.pointer (some ⟨b,o+(off+k.toNat * sz),none⟩),rfl,?_,.eptr cs (off+k.toNat * sz) b o vals hb hU hcell hone hr⟩
     simp [Instr.indexAt,asIntOf,aW hu,h0,h1,bz hsz,Addr.add_none,Instr.sureAddr,Nat.add_assoc]
    ·simp at h
   ·simp at h
  ·simp at h
 ·simp at h

end
section
variable {P:Program} {w:World} {U:Nat→Prop} {ρ:Nat→Option Value}

theorem I1 {k:IntKind} {n:Int} (h:Fh k n=true):ch k n:=by
 cases k <;> simp [Fh] at h <;> simp [ch,IntKind.min,IntKind.max,IntKind.signed,IntKind.bits] <;> omega

theorem Gu (v:Value):Rv w U ρ (Cp v) v:=by
 unfold Cp
 split
 ·exact .kb _
 ·split
  ·rename_i h; exact .int _ _ (I1 h)
  ·exact .any _
 ·rename_i s
  split
  ·rename_i h
   have:s=⟨s.data.toList.toArray⟩:=by cases s; simp
   have h2:s.data.toList.length≤zC:=by unfold zC; omega
   have:=Rv.str (w:=w) (U:=U) (ρ:=ρ) s.data.toList h2
   simpa using this
  ·exact .any _
 ·exact .nils _
 ·exact .nilp
 ·exact .nilf
 ·exact .ifcN
 ·exact .any _

theorem Qn (v:Value):ze3 v=v.oneCell':=by cases v <;> rfl

theorem k9 (v:Value):Rv w U ρ (t7 v) v:=by
 unfold t7
 split
 ·rename_i cs
  split
  ·rename_i h
   have:=Rv.agg (w:=w) (U:=U) (ρ:=ρ) (cs.toList.map Cp) cs.toList (by simp) (fun v hv=>by
    rw [← Qn]; exact cX.1 h v hv) (fun j c v hc hv=>by
    simp only [de,dI] at hc
    obtain ⟨v',hv',rfl⟩:=hc
    rw [hv] at hv'; cases hv'
    exact Gu v)
   simpa using this
  ·exact .any _
 ·exact Gu _

theorem lM (k:IntKind) (n:Int):ch k (k.wrap n):=by
 cases k <;> simp [ch,IntKind.min,IntKind.max,IntKind.signed,IntKind.bits,IntKind.wrap] <;> (try split) <;> omega

theorem v7 {c:Bool} {x y z:AV} {v:Value} (h:nD c x y=some z) (hr:Rv w U ρ (if c then x else y) v):Rv w U ρ z v:=by
  unfold nD at h
  split at h
  all_goals first
    | (cases h; cases c <;> simp at hr ⊢ <;> cases hr <;> first | exact .bool _ | exact .str _ ‹_›)
    | (split at h
       · rename_i hk; subst hk; cases h; cases c <;> simp at hr ⊢ <;> exact hr
       · cases h)
    | cases h

theorem wk {t:TypeId} {cs:List AV} {off:Nat} {r:AV} {vs:List Value} (h:mN P t cs off=some r)
  (hl:cs.length=vs.length) (h1:∀ v∈vs,v.oneCell'=true) (hr:∀ (j:Nat) (c:AV) (v:Value),cs[j]?=some c→vs[j]?=some v→Rv w U ρ c v):
  ∃ x,(part t vs.toArray off).run P w=.ok x w∧Rv w U ρ r x:=by
 unfold mN at h
 split at h
 ·rename_i n ha hn
  split at h
  ·rename_i hle
   cases h
   refine ⟨.agg (vs.toArray.extract off (off+n)),by simp [part,iq ha,bz hn],?_⟩
   have he:vs.toArray.extract off (off+n)=((vs.drop off).take n).toArray:=by
    apply km
    simp [List.extract_eq_take_drop]
   rw [he]
   refine .agg _ _ (by simp [hl]) (fun v hv=>h1 v (List.mem_of_mem_drop (List.mem_of_mem_take hv))) (fun j c v hc hv=>?_)
   rw [uc] at hc hv
   split at hc
   ·rename_i hlt
    rw [if_pos hlt] at hv
    rw [jI] at hc hv
    exact hr _ _ _ hc hv
   ·cases hc
  ·cases h
 ·rename_i ha
  have hlt:off < cs.length:=(bM.1 h).1
  have hv:vs[off]?=some vs[off]:=zJ (by omega)
  refine ⟨vs[off],?_,hr _ _ _ h hv⟩
  simp [part,iq ha,hv]
 ·cases h

theorem Qz (s:zo) (i:Nat) (h:i < s.length):(⟨s.toArray⟩:ByteArray)[i]?=some (s.getD i 0):=by
 have h':i < (⟨s.toArray⟩:ByteArray).size:=by simpa [ByteArray.size] using h
 rw [getElem?_pos _ i h']
 simp [List.getD,zJ h]
 rfl

theorem E9 {t:TypeId} {ax ai:AV} {vx vi:Value} {f:ew} (h:(Bc P t ax ai).val=some f)
  (hx:Rv w U ρ ax vx) (hi:Rv w U ρ ai vi):∃ r x,f={ val:=r }∧(Instr.index t vx vi).run P w=.ok x w∧Rv w U ρ r x:=by
 unfold Bc at h
 split at h
 ·rename_i ik k
  cases hi
  split at h
  ·rename_i s hu
   simp [gU] at h
   obtain ⟨⟨h0,h1⟩,rfl⟩:=h
   cases hx with
   | str _ hs=>
   have hlt:k.toNat < s.length:=by omega
   refine ⟨_,.int .u8 (s.getD k.toNat 0).toNat,rfl,?_,?_⟩
   ·simp [Instr.index,asIntOf,aW hu,h0,Qz s _ hlt]
   ·rw [aJ]
    refine .int _ _ ?_
    have:=(s[k.toNat]?.getD 0).toNat_lt
    simp [ch,IntKind.min,IntKind.max,IntKind.signed,IntKind.bits]
    omega
  ·rename_i len elem cs hu
   split at h
   ·rename_i sz hsz
    split at h
    ·rename_i r hp
     simp [gU] at h
     obtain ⟨⟨h0,h1⟩,rfl⟩:=h
     cases hx with
     | agg _ vs hl hone hr=>
     obtain ⟨x,hx,hrx⟩:=wk (w:=w) (U:=U) (ρ:=ρ) hp hl hone hr
     exact ⟨r,x,rfl,by simp [Instr.index,asIntOf,aW hu,h0,h1,bz hsz,hx],hrx⟩
    ·simp at h
   ·simp at h
  ·simp at h
 ·simp at h

theorem y7 (n:Nat) (hn:n≤zC):ch .i64 (n:Int):=by
 unfold zC at hn
 simp [ch,IntKind.min,IntKind.max,IntKind.signed,IntKind.bits]; omega

theorem BQ {e:Sh} {l:List (Sem e)} {v:Value} (hr:Rv w U ρ (.sl e l) v):∃ a c,v=.slice a l.length c∧l.length≤zC∧l.length≤c:=by
 cases hr with
 | sl0 _ a c=>exact ⟨a,c,rfl,by simp,by simp⟩
 | sl _ _ b o c vals hc hm hb hU hcell hrr=>exact ⟨_,_,rfl,hm,hc⟩

theorem w4 (s:zo):(⟨s.toArray⟩:ByteArray).size=s.length:=by simp [ByteArray.size]

theorem Lg {hp:Nat→AO} {t:TypeId} {ax:AV} {vx:Value} {ty:TypeId} {f:ew} (h:(Lf P hp t ax).val=some f) (hx:Rv w U ρ ax vx)
  (hob:∀ id∈ax.ids,be w U ρ id (hp id)):
  ∃ r x,f={ val:=r }∧(Builtin.len_ #[t] ty #[vx]).run P w=.ok x w∧Rv w U ρ r x:=by
 unfold Lf at h
 split at h
 ·rename_i hu
  split at h
  ·rename_i s
   simp at h; subst h
   cases hx with
   | str _ hs=>exact ⟨_,.int .i64 s.length,rfl,by simp [Builtin.len_,aW hu,goInt,w4],.int _ _ (y7 _ hs)⟩
  ·simp at h
 ·rename_i e0 hu
  split at h
  ·simp at h; subst h
   cases hx
   exact ⟨_,_,rfl,by simp [Builtin.len_,aW hu,goInt],.int _ _ (y7 0 (by simp))⟩
  ·rename_i e l
   simp at h; subst h
   obtain ⟨a,c,rfl,hm,_⟩:=BQ hx
   exact ⟨_,_,rfl,by simp [Builtin.len_,aW hu,goInt],.int _ _ (y7 _ hm)⟩
  ·rename_i id
   have ho:=hob id (by simp [AV.ids])
   cases hx with
   | vec _ _ hv _=>
   split at h
   ·rename_i e l hcs
    rw [hcs] at ho
    obtain ⟨a,c',hr,hm,h3⟩:=ho
    rw [hr] at hv; cases hv
    simp at h; subst h
    exact ⟨_,_,rfl,by simp [Builtin.len_,aW hu,goInt],.int _ _ (y7 _ hm)⟩
   ·rename_i e l hcs
    rw [hcs] at ho
    obtain ⟨v',hv',hrv⟩:=ho
    rw [hv] at hv'; cases hv'
    obtain ⟨a,c,rfl,hm,_⟩:=BQ hrv
    simp at h; subst h
    exact ⟨_,_,rfl,by simp [Builtin.len_,aW hu,goInt],.int _ _ (y7 _ hm)⟩
   ·simp at h
  ·simp at h
 ·rename_i kt et hu
  split at h
  ·rename_i id
   have ho:=hob id (by simp [AV.ids])
   cases hx with
   | mp _ _ hv _=>
   split at h
   ·rename_i u es hcs
    rw [hcs] at ho
    obtain ⟨r,ents,clock,h1,h2,h3,h4,h5⟩:=ho
    rw [h1] at hv; cases hv
    simp at h
    obtain ⟨hlen,rfl⟩:=h
    have hl:ents.size=es.length:=by have:=congrArg List.length h4; simpa using this
    exact ⟨_,.int .i64 es.length,rfl,by simp [Builtin.len_,aW hu,goInt,kl h3,hl,Result.andThen],.int _ _ (y7 _ (by unfold zC; omega))⟩
   ·simp at h
  ·simp at h
 ·simp at h

theorem Ld {d:Nat} {t:TypeId} {x y:AV} {r:Bool} {a b:Value} (h:Sw P t x y=some r) (ha:Rv w U ρ x a) (hb:Rv w U ρ y b):
  (Op.equalIn (d+1) t a b).run P w=.ok r w:=by
 unfold Sw at h
 split at h
 ·rename_i hu
  split at h
  ·rename_i hkk; subst hkk; cases h
   cases ha; cases hb
   exact run_equalIn_int w d t _ _ _ _ hu
  ·cases h
 ·rename_i hu
  cases h; cases ha; cases hb
  rw [run_equalIn_string w d t _ _ hu]
  simp
 all_goals first
  | (rename_i hu; cases h; cases ha; cases hb; exact run_equalIn_bool w d t _ _ hu)
  | cases h

theorem PQ {t:TypeId} {x y:AV} {r:Bool} (h:Sw P t x y=some r):w7 P t=some false:=by
 unfold Sw at h
 split at h <;> simp_all [w7]

theorem GX {d:Nat}:∀ (fs:List Field) (i:Nat) (xs ys:List AV) (r:Bool) (vx vy:Array Value),xD P fs i xs ys=some r→
  (∀ (j:Nat) c,xs[j]?=some c→∃ v,vx[i+j]?=some v∧Rv w U ρ c v)→(∀ (j:Nat) c,ys[j]?=some c→∃ v,vy[i+j]?=some v∧Rv w U ρ c v)→
  (Op.eqFields (d+1) vx vy fs).run P w=.ok r w
 | [],i,[],[],r,vx,vy,h,_,_=>by
  simp [xD] at h; subst h; simp [Op.eqFields]
 | f :: fs,i,a::xs,b::ys,r,vx,vy,h,hx,hy=>by
  simp only [xD] at h
  split at h
  ·rename_i hc
   simp at hc
   obtain ⟨hn,ho⟩:=hc
   split at h
   ·rename_i r1 s1 h1 h2
    cases h
    obtain ⟨va,hva,hra⟩:=hx 0 a rfl
    obtain ⟨vb,hvb,hrb⟩:=hy 0 b rfl
    have hpart:∀ (vz:Array Value) (v:Value),vz[i+0]?=some v→(part f.type vz f.offset).run P w=.ok v w:=by
     intro vz v hv
     rw [oh] at hv
     simp [part,iq (PQ h1),ho,hv]
    have ih:=GX (d:=d) fs (i+1) xs ys s1 vx vy h2 (fun j c hj=>by
      obtain ⟨v,hv,hr⟩:=hx (j+1) c hj
      exact ⟨v,by rw [show i+1+j=i+(j+1) by omega]; exact hv,hr⟩)
     (fun j c hj=>by
      obtain ⟨v,hv,hr⟩:=hy (j+1) c hj
      exact ⟨v,by rw [show i+1+j=i+(j+1) by omega]; exact hv,hr⟩)
    simp only [Op.eqFields,ne_eq,hn,not_false_eq_true,if_true,cZ,hpart vx va hva,hpart vy vb hvb,jj,Ld h1 hra hrb,Sem.run_ite,ol,ih]
    cases r1 <;> simp
   ·cases h
  ·cases h
 | [],_,_::_,_,_,_,_,h,_,_=>by simp [xD] at h
 | [],_,[],_::_,_,_,_,h,_,_=>by simp [xD] at h
 | _::_,_,[],_,_,_,_,h,_,_=>by simp [xD] at h
 | _::_,_,_::_,[],_,_,_,h,_,_=>by simp [xD] at h

theorem E3 {t:TypeId} {x y:AV} {r:Bool} {a b:Value} (h:Yf P t x y=some r) (ha:Rv w U ρ x a) (hb:Rv w U ρ y b)
  (hni:∀ k n k' n',x=.int k n→y=.int k' n'→False) (hns:∀ s s',x=.str s→y=.str s'→False):
  (Op.equal t a b).run P w=.ok r w∧(∀ op p q,(eqGuard op t p q a b).run P w=.ok () w)∧((∃ c d,a=.bool c∧b=.bool d)∨∃ c d,a=.agg c∧b=.agg d):=by
 unfold Yf at h
 split at h
 ·rename_i a' b'
  cases ha with
  | agg _ vs hl h1 hr=>
  cases hb with
  | agg _ vs' hl' h1' hr'=>
  split at h
  ·rename_i fs hu
   split at h
   ·rename_i hc
    simp at hc
    obtain ⟨hs,hg⟩:=hc
    refine ⟨?_,fun op p q=>run_eqGuard_agg w op t p q _ _ hg,.inr ⟨_,_,rfl,rfl⟩⟩
    have hf:P.fieldsOf t=fs:=by simp [Program.fieldsOf,hu]
    show (Op.equalIn (9999+1) t _ _).run P w=_
    rw [run_equalIn_struct w 9999 t _ _ (by rw [hf]; exact hu) hs,hf]
    refine GX (U:=U) (ρ:=ρ) (d:=9998) fs.toList 0 a' b' r _ _ h (fun j c hj=>?_) (fun j c hj=>?_)
    ·have hlt:j < vs.length:=by rw [← hl]; exact (bM.1 hj).1
     exact ⟨vs[j],by simp [zJ hlt],hr j c _ hj (zJ hlt)⟩
    ·have hlt:j < vs'.length:=by rw [← hl']; exact (bM.1 hj).1
     exact ⟨vs'[j],by simp [zJ hlt],hr' j c _ hj (zJ hlt)⟩
   ·cases h
  ·cases h
 ·have h':=h
  unfold Sw at h
  split at h
  ·exact absurd (hni _ _ _ _ rfl rfl) id
  ·exact absurd (hns _ _ rfl rfl) id
  all_goals first
   | (cases h; have h2:=Ld (d:=9999) h' ha hb; cases ha; cases hb; exact ⟨h2,fun op p q=>by cases op <;> simp [eqGuard],.inl ⟨_,_,rfl,rfl⟩⟩)
   | cases h

theorem Py {op:BinOp} {t:TypeId} {x y:AV} {a b:Value} {f:ew} (p q:Operand) (h:(Vx P op t x y).val=some f) (ha:Rv w U ρ x a) (hb:Rv w U ρ y b)
  (hni:∀ k n k' n',x=.int k n→y=.int k' n'→False) (hns:∀ s s',x=.str s→y=.str s'→False):
  ∃ r z,f={ val:=r }∧(do eqGuard op t p q a b; binOp op t a b:Go.Sem Value).run P w=.ok z w∧Rv w U ρ r z:=by
 unfold Vx at h
 split at h
 ·split at h
  ·rename_i r hr
   simp at h; subst h
   obtain ⟨h1,h2,h3⟩:=E3 hr ha hb hni hns
   refine ⟨_,.bool r,rfl,?_,.bool r⟩
   rw [cZ,h2]
   rcases h3 with ⟨c,d,rfl,rfl⟩ | ⟨c,d,rfl,rfl⟩ <;> simp [binOp,h1]
  ·simp at h
 ·split at h
  ·rename_i r hr
   simp at h; subst h
   obtain ⟨h1,h2,h3⟩:=E3 hr ha hb hni hns
   refine ⟨_,.bool (!r),rfl,?_,.bool (!r)⟩
   rw [cZ,h2]
   rcases h3 with ⟨c,d,rfl,rfl⟩ | ⟨c,d,rfl,rfl⟩ <;> simp [binOp,h1]
  ·simp at h
 ·simp at h

theorem H4 {k:IntKind} {a b:Int} (ha:ch k a) (hb:ch k b) (h0:b≠0):k.wrap (a.tmod b)=a.tmod b:=by
 have h1:=Int.tmod_lt_of_pos
 have:(a.tmod b).natAbs < b.natAbs:=by
  rw [Int.natAbs_tmod]
  exact Nat.mod_lt _ (by omega)
 have hs:0≤a→0≤a.tmod b:=fun h=>Int.tmod_nonneg b h
 cases k <;> simp [ch,IntKind.min,IntKind.max,IntKind.signed,IntKind.bits] at ha hb <;> simp [IntKind.wrap,IntKind.signed,IntKind.bits] <;> (try split) <;> omega

theorem PY {k:IntKind} {a:Int} (h:ch k a):ch k (a / 2):=by
 obtain ⟨h1,h2⟩:=h
 cases k <;> (simp only [ch,IntKind.min,IntKind.max,IntKind.signed,IntKind.bits] at h1 h2 ⊢; simp at h1 h2 ⊢; omega)

theorem Pz {op:BinOp} {t:TypeId} {k:IntKind} {a b:Int} {f:ew} (p q:Operand) (h:(Vy op k a b).val=some f) (ha:ch k a) (hb:ch k b):
  ∃ r z,f={ val:=r }∧(do eqGuard op t p q (.int k a) (.int k b); binOp op t (.int k a) (.int k b):Go.Sem Value).run P w=.ok z w∧Rv w U ρ r z:=by
 have hg:∀ op,(eqGuard op t p q (.int k a) (.int k b)).run P w=.ok () w:=by intro op; cases op <;> simp [eqGuard]
 unfold Vy at h
 split at h
 ·simp at h; subst h; exact ⟨_,_,rfl,by rw [cZ,hg]; simp [binOp,Op.intArith],.int _ _ (lM _ _)⟩
 ·simp at h; subst h; exact ⟨_,_,rfl,by rw [cZ,hg]; simp [binOp,Op.intArith],.int _ _ (lM _ _)⟩
 ·simp at h; subst h; exact ⟨_,_,rfl,by rw [cZ,hg]; simp [binOp,Op.intArith],.int _ _ (lM _ _)⟩
 ·simp at h; obtain ⟨h0,rfl⟩:=h; exact ⟨_,_,rfl,by rw [cZ,hg]; simp [binOp,Op.intDiv,h0],.int _ _ (lM _ _)⟩
 ·simp at h; obtain ⟨h0,rfl⟩:=h
  refine ⟨_,.int k (a.tmod b),rfl,by rw [cZ,hg]; simp [binOp,Op.intDiv,h0],?_⟩
  rw [H4 ha hb h0]
  exact .int _ _ (by rw [← H4 ha hb h0]; exact lM _ _)
 ·simp at h; obtain ⟨h0,rfl⟩:=h
  subst h0
  refine ⟨_,.int k (a / 2),rfl,?_,.int _ _ (PY ha)⟩
  have hk:min 1 k.bits=1:=by cases k <;> rfl
  have hd:a.fdiv 2=a / 2:=by rw [Int.fdiv_eq_ediv_of_nonneg]; omega
  rw [cZ,hg]
  simp [binOp,Op.shift,hk,hd]
 all_goals first
  | (simp at h; subst h; exact ⟨_,_,rfl,by rw [cZ,hg]; simp [binOp,Op.intCmp],.bool _⟩)
  | simp at h

theorem Gb (a b:zo):(⟨a.toArray⟩:ByteArray)++⟨b.toArray⟩=⟨(a++b).toArray⟩:=by
 apply ByteArray.ext
 simp

theorem PA {op:BinOp} {t:TypeId} {a b:zo} {f:ew} (p q:Operand) (h:(Vz op a b).val=some f):
  ∃ r z,f={ val:=r }∧(do eqGuard op t p q (.string ⟨a.toArray⟩) (.string ⟨b.toArray⟩); binOp op t (.string ⟨a.toArray⟩) (.string ⟨b.toArray⟩):Go.Sem Value).run P w=.ok z w∧Rv w U ρ r z:=by
 have hg:∀ op,(eqGuard op t p q (.string ⟨a.toArray⟩) (.string ⟨b.toArray⟩)).run P w=.ok () w:=by intro op; cases op <;> simp [eqGuard]
 unfold Vz at h
 split at h
 ·simp at h; obtain ⟨h0,rfl⟩:=h
  refine ⟨_,.string ⟨(a++b).toArray⟩,rfl,?_,.str _ (by unfold zC; simp; omega)⟩
  rw [cZ,hg]
  simp [binOp,Op.stringOp,w4,Gb]
  omega
 all_goals first
  | (simp at h; subst h; exact ⟨_,_,rfl,by rw [cZ,hg]; simp [binOp,Op.stringOp],.bool _⟩)
  | simp at h

theorem Px {op:BinOp} {t:TypeId} {x y:AV} {a b:Value} {f:ew} (p q:Operand) (h:(Vw P op t x y).val=some f) (ha:Rv w U ρ x a) (hb:Rv w U ρ y b):
  ∃ r z,f={ val:=r }∧(do eqGuard op t p q a b; binOp op t a b:Go.Sem Value).run P w=.ok z w∧Rv w U ρ r z:=by
 unfold Vw at h
 split at h
 ·split at h
  ·rename_i hk; subst hk
   cases ha with
   | int _ _ h1=>
   cases hb with
   | int _ _ h2=>exact Pz p q h h1 h2
  ·simp at h
 ·cases ha; cases hb
  exact PA p q h
 ·rename_i hni hns
  exact Py p q h ha hb (fun k n k' n' e1 e2=>hni k n k' n' e1 e2) (fun s s' e1 e2=>hns s s' e1 e2)

def f8 (vs:List Value) (off:Nat):List Value→List Value
 | []=>vs
 | v::r=>f8 (vs.set off v) (off+1) r

theorem cd:∀ (r vs:List Value) (off:Nat),(f8 vs off r).length=vs.length
 | [],_,_=>rfl
 | v::r,vs,off=>by simp [f8,cd r]

theorem mb:∀ (r cs:List AV) (off:Nat),(setCells cs off r).length=cs.length
 | [],_,_=>rfl
 | v::r,cs,off=>by simp [setCells,mb r]

theorem tK:∀ (r:List AV) (vr:List Value) (cs:List AV) (vs:List Value) (off:Nat),cK w U ρ cs vs→cK w U ρ r vr→cK w U ρ (setCells cs off r) (f8 vs off vr)
 | [],[],cs,vs,off,h,_=>h
 | [],_::_,_,_,_,_,h=>by have:=h.len; simp at this
 | _::_,[],_,_,_,_,h=>by have:=h.len; simp at this
 | c::r,v::vr,cs,vs,off,h,h'=>by
  refine tK r vr _ _ (off+1) ⟨by simp [h.len],fun j c' v' hc hv=>?_⟩ ⟨by have:=h'.len; simpa using this,fun j c' v' hc hv=>h'.rv (j+1) c' v' hc hv⟩
  rw [jJ] at hc hv
  by_cases hj:off=j
  ·simp only [hj,if_true] at hc hv
   split at hc
   ·rename_i hlt
    rw [if_pos (by rw [← h.len]; exact hlt)] at hv
    cases hc; cases hv
    exact h'.rv 0 _ _ rfl rfl
   ·cases hc
  ·rw [if_neg hj] at hc hv
   exact h.rv j c' v' hc hv

theorem wX:∀ (vr vs:List Value) (off:Nat),(∀ v∈vs,v.oneCell'=true)→(∀ v∈vr,v.oneCell'=true)→∀ v∈f8 vs off vr,v.oneCell'=true
 | [],_,_,h,_=>h
 | v::vr,vs,off,h,h'=>wX vr _ _ (fun x hx=>by
   rcases mr hx with h1 | h1
   ·exact h _ h1
   ·rw [h1]; exact h' _ (by simp)) (fun x hx=>h' x (by simp [hx]))

theorem vO (cs:List Value):∀ (l:List Value) (k:Nat) (off:Nat),(l.zipIdx k).foldl (fun (cs:Array Value) (p:Value×Nat)=>cs.setIfInBounds (off+p.2) p.1) cs.toArray=(f8 cs (off+k) l).toArray
 | [],_,_=>rfl
 | v::l,k,off=>by
  simp only [List.zipIdx_cons,List.foldl_cons,f8]
  have:=vO (cs.set (off+k) v) l (k+1) off
  rw [show off+k+1=off+(k+1) by omega,← this]
  congr 1
  simp

theorem vM {place:Nat→Option (Nat×Nat)}:∀ (parts:List (Nat×AV)) (vparts:List (Nat×Value)) (cs:List AV) (vs:List Value) (r:List AV),
  y0 place cs parts=some r→cK w U ρ cs vs→(∀ v∈vs,v.oneCell'=true)→parts.map (·.1)=vparts.map (·.1)→cK w U ρ (parts.map (·.2)) (vparts.map (·.2))→
  ∃ vr,Instr.fill place vs.toArray vparts=some vr∧cK w U ρ r vr.toList∧∀ v∈vr.toList,v.oneCell'=true
 | [],[],cs,vs,r,h,hr,h1,_,_=>by
  simp [y0] at h; subst h
  exact ⟨vs.toArray,by simp [Instr.fill],by simpa using hr,by simpa using h1⟩
 | [],_::_,_,_,_,_,_,_,h,_=>by simp at h
 | _::_,[],_,_,_,_,_,_,h,_=>by simp at h
 | (i,c)::parts,(i',v)::vparts,cs,vs,r,h,hr,h1,hi,hp=>by
  simp at hi
  obtain ⟨rfl,hi⟩:=hi
  simp only [y0] at h
  split at h
  ·rename_i off size ccs hpl hcc
   split at h
   ·rename_i hsz
    obtain ⟨hs1,hs2⟩:=hsz
    obtain ⟨hcv,hcv1⟩:=eA (w:=w) (U:=U) (ρ:=ρ) hcc (hp.rv 0 c v rfl rfl)
    obtain ⟨vr,e1,e2,e3⟩:=vM parts vparts _ (f8 vs off v.cells.toList) r h (tK _ _ _ _ _ hr hcv) (wX _ _ _ h1 hcv1) hi
     ⟨by have:=hp.len; simpa using this,fun j c' v' hc hv=>hp.rv (j+1) c' v' hc hv⟩
    refine ⟨vr,?_,e2,e3⟩
    have hlen:=hcv.len
    simp only [Array.length_toList] at hlen
    have hlen2:=hr.len
    simp only [Instr.fill,hpl]
    rw [if_neg (by simp; omega)]
    have:=vO vs v.cells.toList 0 off
    rw [oh] at this
    rw [← e1,← this]
    congr 1
    rw [← Array.foldl_toList,Array.toList_zipIdx]
   ·cases h
  ·cases h

theorem wl:∀ (fs:List Field) (ps:List (Nat×Nat)),p7 P fs=some ps→(fs.mapM fun f=>do pure (f.offset,← Go.sizeOf f.type):Go.Sem (List (Nat×Nat))).run P w=.ok ps w
 | [],ps,h=>by simp [p7] at h; subst h; simp
 | f::r,ps,h=>by
  simp only [p7] at h
  split at h
  ·rename_i n l hn hl
   cases h
   have:=wl r l hl
   simp only [List.mapM_cons,cZ,bz hn,jj,ol,this]
  ·cases h

theorem Ip {t:TypeId} {parts:List (Nat×AV)} {vparts:List (Nat×Value)} {r:AV} (h:Ey P t parts=some r)
  (hi:parts.map (·.1)=vparts.map (·.1)) (hp:cK w U ρ (parts.map (·.2)) (vparts.map (·.2))):
  ∃ x,(Instr.build t vparts.toArray).run P w=.ok x w∧Rv w U ρ r x:=by
 have zeroOk:∀ zero,oH P t=some (.agg zero)→∃ z:Value,(zeroValue t).run P w=.ok z w∧cK w U ρ zero z.cells.toList∧∀ v∈z.cells.toList,v.oneCell'=true:=by
  intro zero hz
  unfold oH at hz
  split at hz
  ·rename_i i hinfo
   simp only [dI] at hz
   obtain ⟨z,hz1,hz2⟩:=hz
   have hr:=k9 (w:=w) (U:=U) (ρ:=ρ) z
   rw [hz2] at hr
   have:=eA (w:=w) (U:=U) (ρ:=ρ) (av:=.agg zero) rfl hr
   exact ⟨z,by simp [zeroValue,typeInfo,hinfo,hz1],this.1,this.2⟩
  ·cases hz
 unfold Ey at h
 split at h
 ·rename_i zero fs hz hu
  split at h
  ·rename_i ps hps
   simp only [dI] at h
   obtain ⟨r',h,rfl⟩:=h
   obtain ⟨z,hz1,hz2,hz3⟩:=zeroOk zero hz
   obtain ⟨vr,e1,e2,e3⟩:=vM parts vparts _ _ _ h hz2 hz3 hi hp
   refine ⟨.agg vr,?_,?_⟩
   ·simp only [Gv] at e1
    have hm:=wl (w:=w) fs.toList ps hps
    have hplaces:(fs.mapM fun f=>do pure (f.offset,← Go.sizeOf f.type):Go.Sem (Array (Nat×Nat))).run P w=.ok ps.toArray w:=by
     rw [Array.mapM_eq_mapM_toList,Sem.run_map,hm]
     rfl
    have e1':Instr.fill (fun x=>ps.toArray[x]?) z.cells vparts=some vr:=by simpa using e1
    simp only [Instr.build,cZ,hz1,jj,aW hu,hplaces,e1',ol]
   ·have:=Rv.agg (w:=w) (U:=U) (ρ:=ρ) r' vr.toList e2.len e3 e2.rv
    simpa using this
  ·cases h
 ·rename_i zero len elem hz hu
  split at h
  ·rename_i n hn
   simp only [dI] at h
   obtain ⟨r',h,rfl⟩:=h
   obtain ⟨z,hz1,hz2,hz3⟩:=zeroOk zero hz
   obtain ⟨vr,e1,e2,e3⟩:=vM parts vparts _ _ _ h hz2 hz3 hi hp
   refine ⟨.agg vr,?_,?_⟩
   ·simp only [Gv] at e1
    simp [Instr.build,hz1,aW hu,bz hn,e1]
   ·have:=Rv.agg (w:=w) (U:=U) (ρ:=ρ) r' vr.toList e2.len e3 e2.rv
    simpa using this
  ·cases h
 ·cases h

end
end Cad
