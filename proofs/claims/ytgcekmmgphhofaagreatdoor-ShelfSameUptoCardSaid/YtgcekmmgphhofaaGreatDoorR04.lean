/- What each operation says. -/
import Derived.Test.YtgcekmmgphhofaaGreatDoorR03
namespace Cad
open Go
open List renaming length->M
open Bool renaming true->Z
open Option renaming some->Y
open Tr (chk br)
open AV (nils agg tup ptr kb str sl)
open Cad renaming AV->R,ow->S,ai->I,Sem->N
section
variable {P:Program} {w:World} {U:Nat->Prop} {ρ:Nat->Option Value}
variable {k:IntKind}{i:Int}
theorem Sn(h:M3 k i=Z):bq k i:=by cases k<;>simp[M3]at h<;>simp[bq,IntKind.min,IntKind.max,IntKind.signed,IntKind.bits]<;>omega
theorem Oo(v:Value):Rv w U ρ (F2 v) v:=by
 unfold F2;split
 .exact .kb _
 .split
  next h=>exact .int _ _ (Sn h)
  .exact .any _
 .rename_i s;split
  .rename_i h;have:s=⟨s.data.toList.toArray⟩:=by cases s;simp
   have x:s.data.toList.length<=af:=by unfold af;omega
   have:=Rv.str (w:=w) (U:=U) (ρ:=ρ) s.data.toList x;simpa using this
  .exact .any _
 .exact .nils _
 .exact .nilp
 .exact .nilf
 .exact .ifcN
 .exact .any _
theorem zaY(v:Value):zqr v=v.oneCell':=by cases v<;>rfl
theorem pW(v:Value):Rv w U ρ (xW v) v:=by
 unfold xW;split
 .rename_i x;split
  .rename_i h;have:=Rv.agg (w:=w) (U:=U) (ρ:=ρ) (x.toList.map F2) x.toList sw (λv a=>by
    rw[<-zaY];exact dg.1 h v a) (λj c v b a=>by
    grind[Oo])
   simpa using this
  .exact .any _
 .exact Oo _
theorem iE(k:IntKind)(n:Int):bq k (k.wrap n):=by cases k<;>simp[bq,IntKind.min,IntKind.max,IntKind.signed,IntKind.bits,IntKind.wrap]<;>(try split)<;>omega
variable {x y:R}{v:Value}
theorem BX{g:Bool}{z:R}(h:qt g x y=Y z)(a:Rv w U ρ (ite g x y) v):Rv w U ρ z v:=by
  unfold qt at h;split at h
  all_goals first
    |(cases h;cases g<;>simp at a|-<;>cases a<;>first|exact .bool _|exact .str _ ‹_›)
    | (split at h
       · rename_i b;subst b;cases h;cases g<;>simp at a|-<;>exact a
       · cases h)
    |cases h
variable {t:TypeId}
theorem Ch{d:List R}{n:Nat}{r:R}{e:List Value}(h:rp P t d n=Y r)
  (l:M d=M e) (i:∀v∈e,v.oneCell'=Z) (q:∀(j:Nat)(c:R)(v:Value),d[j]?=Y c->e[j]?=Y v->Rv w U ρ c v):
  ∃x,(part t e.toArray n).run P w=.ok x w/\Rv w U ρ r x:=by
 unfold rp at h;split at h
 .rename_i a g p;split at h
  .rename_i m;cases h;refine⟨.agg (e.toArray.extract n (n+a)),by simp[part,jp g,cK p],?_⟩;have k:e.toArray.extract n (n+a)=((e.drop n).take a).toArray:=by
    apply fG;simp[List.extract_eq_take_drop]
   rw[k];refine .agg _ _ (by simp[l]) (λv b=>i v (List.mem_of_mem_drop (List.mem_of_mem_take b))) (λj c v s b=>?_);grind
  .cases h
 next g=>have o:n<M d:=(cQ.1 h).1;have b:e[n]?=Y e[n]:=zQ S;refine⟨e[n],?_,q _ _ _ h b⟩;simp[part,jp g,b]
 .cases h
theorem zbh(s:zD)(i:Nat)(h:i<M s):(⟨s.toArray⟩:ByteArray)[i]?=Y (s.getD i 0):=by
 have x:i<(⟨s.toArray⟩:ByteArray).size:=by simpa[ByteArray.size]using h
 rw[getElem?_pos _ i x];simp[List.getD,zQ h];rfl
variable {c:Value}{f:fb}
theorem MM{I:R}(h:(GC P t x I).val=Y f)
  (d:Rv w U ρ x v) (o:Rv w U ρ I c):∃r a,f={val:=r}/\(Instr.index t v c).run P w=.ok a w/\Rv w U ρ r a:=by
 unfold GC at h;split at h
 .rename_i C k;cases o;split at h
  .rename_i s l;simp[lG]at h;obtain⟨⟨e,n⟩,rfl⟩:=h;cases d with
   |str _ A=>
   have g:k.toNat<M s:=by omega
   refine⟨_,.int .u8 (s.getD k.toNat 0).toNat,rfl,?_,?_⟩
   .simp[Instr.index,asIntOf,bm l,e,zbh s _ g]
   .rw[bf];refine .int _ _ ?_;have:=(s[k.toNat]?.getD 0).toNat_lt;simp[bq,IntKind.min,IntKind.max,IntKind.signed,IntKind.bits];omega
  .rename_i y m z l;split at h
   .rename_i sz j;split at h
    .rename_i r q;simp[lG]at h;obtain⟨⟨e,n⟩,rfl⟩:=h;cases d with
     |agg _ D p b u=>
     have⟨a,d,i⟩:=Ch (w:=w) (U:=U) (ρ:=ρ) q p b u;exact⟨r,a,rfl,by simp[Instr.index,asIntOf,bm l,e,n,cK j,d],i⟩
    .simp at h
   .simp at h
  .simp at h
 .simp at h
theorem Fj(n:Nat)(h:n<=af):bq .i64 (n:Int):=by unfold af at h;simp[bq,IntKind.min,IntKind.max,IntKind.signed,IntKind.bits];omega
theorem HW{D:Sh}{l:List (N D)}(g:Rv w U ρ (.sl D l) v):∃a c,v=.slice a (M l) c/\M l<=af/\M l<=c:=by
 cases g with
 |sl0 _ a c=>exact⟨a,c,rfl,sw,sw⟩
 |sl _ _ b o c x d e k j h i=>exact⟨_,_,rfl,e,d⟩
theorem CR(s:zD):(⟨s.toArray⟩:ByteArray).size=M s:=by simp[ByteArray.size]
theorem VC{h:Nat->AO}{ty:TypeId}(b:(VB P h t x).val=Y f)(q:Rv w U ρ x v)
  (o:∀id∈x.ids,aW w U ρ id (h id)):
  ∃r d,f={val:=r}/\(Builtin.len_ #[t] ty #[v]).run P w=.ok d w/\Rv w U ρ r d:=by
 unfold VB at b;split at b
 .rename_i i;split at b
  .rename_i s;simp at b;subst b;cases q with
   |str _ hs=>exact⟨_,.int .i64 (M s),rfl,by simp[Builtin.len_,bm i,goInt,CR],.int _ _ (Fj _ hs)⟩
  .simp at b
 .rename_i e0 i;split at b
  .simp at b;subst b;cases q;exact⟨_,_,rfl,by simp[Builtin.len_,bm i,goInt],.int _ _ (Fj 0 sw)⟩
  next e l=>simp at b;subst b;obtain⟨a,c,rfl,n,_⟩:=HW q;exact⟨_,_,rfl,by simp[Builtin.len_,bm i,goInt],.int _ _ (Fj _ n)⟩
  .rename_i id;have j:=o id (by simp[AV.ids]);cases q with
   |vec _ _ k _=>
   split at b
   next e l g=>rw[g]at j;have⟨a,c',H,n,C⟩:=j;rw[H]at k;cases k;simp at b;subst b;exact⟨_,_,rfl,by simp[Builtin.len_,bm i,goInt],.int _ _ (Fj _ n)⟩
   next e l g=>rw[g]at j;have⟨v',p,z⟩:=j;rw[k]at p;cases p;obtain⟨a,c,rfl,n,_⟩:=HW z;simp at b;subst b;exact⟨_,_,rfl,by simp[Builtin.len_,bm i,goInt],.int _ _ (Fj _ n)⟩
   .simp at b
  .simp at b
 .rename_i kt et i;split at b
  .rename_i id;have j:=o id (by simp[AV.ids]);cases q with
   |mp _ _ k _=>
   split at b
   .rename_i u A g;rw[g]at j;have⟨r,m,y,E,h2,C,F,h5⟩:=j;rw[E]at k;cases k;simp at b;obtain⟨D,rfl⟩:=b;have G:m.size=M A:=by have:=congrArg M F;simpa using this
    exact⟨_,.int .i64 (M A),rfl,by simp[Builtin.len_,bm i,goInt,fW C,G,Result.andThen],.int _ _ (Fj _ um)⟩
   .simp at b
  .simp at b
 .simp at b
variable {r:Bool}
theorem Vy{d:Nat}(h:eqT P t x y=Y r)(b:Rv w U ρ x v)(e:Rv w U ρ y c):
  (Op.equalIn (d+1) t v c).run P w=.ok r w:=by
 unfold eqT at h;split at h
 .rename_i a;split at h
  next g=>subst g;cases h;cases b;cases e;exact run_equalIn_int w d t _ _ _ _ a
  .cases h
 next a=>cases h;cases b;cases e;rw[run_equalIn_string w d t _ _ a];simp
 all_goals first
  |(rename_i a;cases h;cases b;cases e;exact run_equalIn_bool w d t _ _ a)
  |cases h
theorem ZY(h:eqT P t x y=Y r):C3 P t=Y false:=by unfold eqT at h;split at h<;>simp_all[C3]
theorem O2{d:Nat}:∀(fs:List Field)(i:Nat)(l y:List R)(r:Bool)(e g:Array Value),Dw P fs i l y=Y r->
  (∀(j:Nat) c,l[j]?=Y c->∃v,e[i+j]?=Y v/\Rv w U ρ c v)->(∀(j:Nat) c,y[j]?=Y c->∃v,g[i+j]?=Y v/\Rv w U ρ c v)->
  (Op.eqFields (d+1) e g fs).run P w=.ok r w
 | [],i,[],[],r,e,g,h,_,_=>by
  simp[Dw]at h;subst h;simp[Op.eqFields]
 | f :: fs,i,a::l,b::y,r,e,g,h,hx,hy=>by
  simp only[Dw]at h;split at h
  .rename_i u;simp at u;have⟨A,C⟩:=u;split at h
   .rename_i F G t z;cases h;have⟨H,p,n⟩:=hx 0 a rfl;have⟨vb,q,o⟩:=hy 0 b rfl;have x:∀(s:Array Value)(v:Value),s[i+0]?=Y v->(part f.type s f.offset).run P w=.ok v w:=by
     intro s v k;rw[w6]at k;simp[part,jp (ZY t),C,k]
    have E:=O2 (d:=d) fs (i+1) l y G e g z (λj c m=>by
      have⟨v,k,D⟩:=hx (j+1) c m;grind)
     (λj c m=>by
      have⟨v,k,D⟩:=hy (j+1) c m;grind)
    simp only[Op.eqFields,ne_eq,A,not_false_eq_true,zj,cw,x e H p,x g vb q,ol,Vy t n o,Sem.run_ite,ry,E];cases F<;>simp
   .cases h
  .cases h
 |[],_,_::_,_,_,_,_,h,_,_=>by simp[Dw]at h
 |[],_,[],_::_,_,_,_,h,_,_=>by simp[Dw]at h
 |_::_,_,[],_,_,_,_,h,_,_=>by simp[Dw]at h
 |_::_,_,_::_,[],_,_,_,h,_,_=>by simp[Dw]at h
theorem MI(h:eqA P t x y=Y r)(i:Rv w U ρ x v)(l:Rv w U ρ y c)
  (u:∀k n k' n',x=.int k n->y=.int k' n'->False) (z:∀s s',x=.str s->y=.str s'->False):
  (Op.equal t v c).run P w=.ok r w/\(∀o p q,(eqGuard o t p q v c).run P w=.ok () w)/\((∃a d,v=.bool a/\c=.bool d)\/∃a d,v=.agg a/\c=.agg d):=by
 unfold eqA at h;split at h
 .rename_i G H;cases i with
  |agg _ F hl h1 hr=>
  cases l with
  |agg _ g m h0 A=>
  split at h
  .rename_i fs E;split at h
   .rename_i C;simp at C;have⟨hs,hg⟩:=C;refine⟨?_,λo p q=>run_eqGuard_agg w o t p q _ _ hg,.inr ⟨_,_,rfl,rfl⟩⟩;have D:P.fieldsOf t=fs:=by simp[Program.fieldsOf,E]
    show(Op.equalIn (9999+1) t _ _).run P w=_;rw[run_equalIn_struct w 9999 t _ _ (by rw[D];exact E) hs,D];refine O2 (U:=U) (ρ:=ρ) (d:=9998) fs.toList 0 G H r _ _ h (λj a e=>?_) (λj a e=>?_)
    .have b:j<M F:=by rw[<-hl];exact(cQ.1 e).1
     exact⟨F[j],by simp[zQ b],hr j a _ e (zQ b)⟩
    .have b:j<M g:=by rw[<-m];exact(cQ.1 e).1
     exact⟨g[j],by simp[zQ b],A j a _ e (zQ b)⟩
   .cases h
  .cases h
 .have h':=h;unfold eqT at h;split at h
  .exact zp (u _ _ _ _ rfl rfl) id
  .exact zp (z _ _ rfl rfl) id
  all_goals first
   |(cases h;have h2:=Vy (d:=9999) h' i l;cases i;cases l;exact⟨h2,λo p q=>by cases o<;>simp[eqGuard],.inl ⟨_,_,rfl,rfl⟩⟩)
   |cases h
variable {o:BinOp}
theorem ZD(p q:Operand)(h:(zgw P o t x y).val=Y f)(m:Rv w U ρ x v)(u:Rv w U ρ y c)
  (b:∀k n A C,x=.int k n->y=.int A C->False) (e:∀s D,x=.str s->y=.str D->False):
  ∃r z,f={val:=r}/\(do eqGuard o t p q v c;binOp o t v c:Go.Sem Value).run P w=.ok z w/\Rv w U ρ r z:=by
 unfold zgw at h;split at h
 .split at h
  next r l=>simp at h;subst h;have⟨g,i,j⟩:=MI l m u b e;refine⟨_,.bool r,rfl,?_,.bool r⟩;rw[cw,i];rcases j with⟨a,d,rfl,rfl⟩|⟨a,d,rfl,rfl⟩<;>simp[binOp,g]
  .simp at h
 .split at h
  next r l=>simp at h;subst h;have⟨g,i,j⟩:=MI l m u b e;refine⟨_,.bool (!r),rfl,?_,.bool (!r)⟩;rw[cw,i];rcases j with⟨a,d,rfl,rfl⟩|⟨a,d,rfl,rfl⟩<;>simp[binOp,g]
  .simp at h
 .simp at h
variable {m:Int}
theorem Qv(x:bq k i)(a:bq k m)(b:m≠0):k.wrap (i.tmod m)=i.tmod m:=by
 have c:=Int.tmod_lt_of_pos;have:(i.tmod m).natAbs<m.natAbs:=by
  rw[Int.natAbs_tmod];exact Nat.mod_lt _ S
 have d:0<=i->0<=i.tmod m:=λh=>Int.tmod_nonneg m h
 cases k<;>simp[bq,IntKind.min,IntKind.max,IntKind.signed,IntKind.bits]at x a<;>simp[IntKind.wrap,IntKind.signed,IntKind.bits]<;>(try split)<;>omega
theorem zad(h:bq k i):bq k (i/2):=by have⟨x,a⟩:=h;cases k<;>(simp only[bq,IntKind.min,IntKind.max,IntKind.signed,IntKind.bits]at x a|-;simp at x a|-;omega)
theorem ZE(p q:Operand)(h:(zgx o k i m).val=Y f)(b:bq k i)(c:bq k m):
  ∃r z,f={val:=r}/\(do eqGuard o t p q (.int k i) (.int k m);binOp o t (.int k i) (.int k m):Go.Sem Value).run P w=.ok z w/\Rv w U ρ r z:=by
 have x:∀o,(eqGuard o t p q (.int k i) (.int k m)).run P w=.ok () w:=by intro o;cases o<;>simp[eqGuard]
 unfold zgx at h;split at h
 .simp at h;subst h;exact⟨_,_,rfl,by rw[cw,x];simp[binOp,Op.intArith],.int _ _ (iE _ _)⟩
 .simp at h;subst h;exact⟨_,_,rfl,by rw[cw,x];simp[binOp,Op.intArith],.int _ _ (iE _ _)⟩
 .simp at h;subst h;exact⟨_,_,rfl,by rw[cw,x];simp[binOp,Op.intArith],.int _ _ (iE _ _)⟩
 .simp at h;obtain⟨a,rfl⟩:=h;exact⟨_,_,rfl,by rw[cw,x];simp[binOp,Op.intDiv,a],.int _ _ (iE _ _)⟩
 .simp at h;obtain⟨a,rfl⟩:=h;refine⟨_,.int k (i.tmod m),rfl,by rw[cw,x];simp[binOp,Op.intDiv,a],?_⟩;rw[Qv b c a];exact .int _ _ (by rw[<-Qv b c a];exact iE _ _)
 .simp at h;obtain⟨a,rfl⟩:=h;subst a;refine⟨_,.int k (i/2),rfl,?_,.int _ _ (zad b)⟩;have e:min 1 k.bits=1:=by cases k<;>rfl
  have d:i.fdiv 2=i/2:=by rw[Int.fdiv_eq_ediv_of_nonneg];omega
  rw[cw,x];simp[binOp,Op.shift,e,d]
 .simp at h;subst h;exact⟨_,_,rfl,by rw[cw,x];simp[binOp,Op.intBits],.int _ _ (iE _ _)⟩
 .simp at h;subst h;exact⟨_,_,rfl,by rw[cw,x];simp[binOp,Op.intBits],.int _ _ (iE _ _)⟩
 .simp at h;subst h;exact⟨_,_,rfl,by rw[cw,x];simp[binOp,Op.intBits],.int _ _ (iE _ _)⟩
 all_goals first
  |(simp at h;subst h;exact⟨_,_,rfl,by rw[cw,x];simp[binOp,Op.intCmp],.bool _⟩)
  |simp at h
theorem NL(a b:zD):(⟨a.toArray⟩:ByteArray)++⟨b.toArray⟩=⟨(a++b).toArray⟩:=by apply ByteArray.ext;simp
theorem ZF{a b:zD}(p q:Operand)(h:(zgy o a b).val=Y f):
  ∃r z,f={val:=r}/\(do eqGuard o t p q (.string ⟨a.toArray⟩) (.string ⟨b.toArray⟩);binOp o t (.string ⟨a.toArray⟩) (.string ⟨b.toArray⟩):Go.Sem Value).run P w=.ok z w/\Rv w U ρ r z:=by
 have x:∀o,(eqGuard o t p q (.string ⟨a.toArray⟩) (.string ⟨b.toArray⟩)).run P w=.ok () w:=by intro o;cases o<;>simp[eqGuard]
 unfold zgy at h;split at h
 .simp at h;obtain⟨c,rfl⟩:=h;refine⟨_,.string ⟨(a++b).toArray⟩,rfl,?_,.str _ (by unfold af;simp;omega)⟩;rw[cw,x];simp[binOp,Op.stringOp,CR,NL];omega
 all_goals first
  |(simp at h;subst h;exact⟨_,_,rfl,by rw[cw,x];simp[binOp,Op.stringOp],.bool _⟩)
  |simp at h
theorem zbe{d:IntKind}(p q:Operand)(h:(ziO o k i m).val=Y f)(b:bq k i):
  ∃r z,f={val:=r}/\(do eqGuard o t p q (.int k i) (.int d m);binOp o t (.int k i) (.int d m):Go.Sem Value).run P w=.ok z w/\Rv w U ρ r z:=by
 unfold ziO at h;split at h
 .simp at h;obtain⟨a,rfl⟩:=h;refine⟨_,_,rfl,by simp[eqGuard,binOp,Op.shift,show¬m<0 by omega],.int _ _ ?_⟩;generalize min m.toNat k.bits=n;have x:(0:Int)<2^n:=Int.pow_pos (by decide);generalize(2:Int)^n=c at x;rw[Int.fdiv_eq_ediv_of_nonneg _ S];have l:min 0 i<=i/c:=by
   rcases Int.le_total 0 i with q|q
   .have:=Int.ediv_nonneg q (Int.le_of_lt x);omega
   .have e:i*c<=i*1:=Int.mul_le_mul_of_nonpos_left q S;have:=(Int.le_ediv_iff_mul_le x).2 (by simpa using e);omega
  have g:i/c<=max 0 i:=by
   rcases Int.le_total 0 i with q|q
   .have:=Int.ediv_le_self c q;omega
   .have:=Int.ediv_nonpos_of_nonpos_of_neg q x;omega
  have a:k.min<=0/\0<=k.max:=by cases k<;>decide
  exact⟨by have:=b.1;omega,by have:=b.2;omega⟩
 .simp at h;obtain⟨a,rfl⟩:=h;exact⟨_,_,rfl,by simp[eqGuard,binOp,Op.shift,show¬m<0 by omega],.int _ _ (iE _ _)⟩
 .simp at h
theorem ZC(p q:Operand)(h:(zgv P o t x y).val=Y f)(a:Rv w U ρ x v)(b:Rv w U ρ y c):
  ∃r z,f={val:=r}/\(do eqGuard o t p q v c;binOp o t v c:Go.Sem Value).run P w=.ok z w/\Rv w U ρ r z:=by
 unfold zgv at h;split at h
 .split at h
  .rename_i m;subst m;cases a with
   |int _ _ g=>
   cases b with
   |int _ _ l=>exact ZE p q h g l
  .cases a with
   |int _ _ g=>
   cases b with
   |int _ _ l=>exact zbe p q h g
 .cases a;cases b;exact ZF p q h
 next i j=>exact ZD p q h a b (λk n u A e d=>i k n u A e d) (λs C e d=>j s C e d)
def nS(h:List Value)(o:Nat):List Value->List Value
 |[]=>h
 |v::r=>nS (h.set o v) (o+1) r
theorem gV:∀(r h:List Value)(o:Nat),(nS h o r).length=M h
 |[],_,_=>rfl
 |v::r,h,o=>by simp[nS,gV r]
theorem oz:∀(r c:List R)(o:Nat),(setCells c o r).length=M c
 |[],_,_=>rfl
 |v::r,c,o=>by simp[setCells,oz r]
theorem Ab:∀(r:List R)(d:List Value)(b:List R)(e:List Value)(o:Nat),cu w U ρ b e->cu w U ρ r d->cu w U ρ (setCells b o r) (nS e o d)
 |[],[],b,e,o,h,_=>h
 |[],_::_,_,_,_,_,h=>by have:=h.len;simp at this
 |_::_,[],_,_,_,_,h=>by have:=h.len;simp at this
 | c::r,v::d,b,e,o,h,h'=>by
  refine Ab r d _ _ (o+1) ⟨by simp[h.len],λj g k x a=>?_⟩ ⟨by have:=h'.len;simpa using this,λj g k x a=>h'.rv (j+1) g k x a⟩;rw[oh]at x a;by_cases l:o=j
  .simp only[l,zj]at x a;split at x
   next i=>rw[zf (by rw[<-h.len];exact i)]at a;cases x;cases a;exact h'.rv 0 _ _ rfl rfl
   .cases x
  .rw[zh l]at x a;exact h.rv j g k x a
theorem CM:∀(a b:List Value)(o:Nat),(∀v∈b,v.oneCell'=Z)->(∀v∈a,v.oneCell'=Z)->∀v∈nS b o a,v.oneCell'=Z
 |[],_,_,h,_=>h
 | v::a,b,o,h,h'=>CM a _ _ (fun x c=>by
   grind) (λx c=>h' x (by simp[c]))
theorem Bw(c:List Value):∀(l:List Value)(k:Nat)(o:Nat),(l.zipIdx k).foldl (λ(c:Array Value)(p:Value×Nat)=>c.setIfInBounds (o+p.2) p.1) c.toArray=(nS c (o+k) l).toArray
 |[],_,_=>rfl
 | v::l,k,o=>by
  simp only[List.zipIdx_cons,List.foldl_cons,nS];have:=Bw (c.set (o+k) v) l (k+1) o;grind
theorem Bp{a:Nat->Option (Nat×Nat)}:∀(p:List (Nat×R))(x:List (Nat×Value))(l:List R)(b:List Value)(r:List R),
  EZ a l p=Y r->cu w U ρ l b->(∀v∈b,v.oneCell'=Z)->p.map (·.1)=x.map (·.1)->cu w U ρ (p.map (·.2)) (x.map (·.2))->
  ∃k,Instr.fill a b.toArray x=Y k/\cu w U ρ r k.toList/\∀v∈k.toList,v.oneCell'=Z
 | [],[],l,b,r,h,n,q,_,_=>by
  simp[EZ]at h;subst h;exact⟨b.toArray,by simp[Instr.fill],by simpa using n,by simpa using q⟩
 |[],_::_,_,_,_,_,_,_,h,_=>by simp at h
 |_::_,[],_,_,_,_,_,_,h,_=>by simp at h
 | (i,c)::p,(i',v)::x,l,b,r,h,n,q,m,hp=>by
  simp at m;obtain⟨rfl,m⟩:=m;simp only[EZ]at h;split at h
  .rename_i o z C u s;split at h
   .rename_i y;have⟨G,H⟩:=y;have⟨d,e⟩:=gJ (w:=w) (U:=U) (ρ:=ρ) s (hp.rv 0 c v rfl rfl)
    have⟨k,e1,D,E⟩:=Bp p x _ (nS b o v.cells.toList) r h (Ab _ _ _ _ _ n d) (CM _ _ _ q e) m
     ⟨by have:=hp.len;simpa using this,λj A v' F hv=>hp.rv (j+1) A v' F hv⟩
    refine⟨k,?_,D,E⟩;have g:=d.len;simp only[Array.length_toList]at g;have t:=n.len;simp only[Instr.fill,u];rw[zh sg];have:=Bw b v.cells.toList 0 o;grind[Array.toList_zipIdx]
   .cases h
  .cases h
theorem Cj:∀(fs:List Field)(p:List (Nat×Nat)),tX P fs=Y p->(fs.mapM λf=>do pure (f.offset,<-Go.sizeOf f.type):Go.Sem (List (Nat×Nat))).run P w=.ok p w
 |[],p,h=>by simp[tX]at h;subst h;simp
 | f::r,p,h=>by
  simp only[tX]at h;split at h
  next n l a x=>cases h;have:=Cj r l x;simp_all[cK]
  .cases h
theorem Rg{p:List (Nat×R)}{vparts:List (Nat×Value)}{r:R}(h:L7 P t p=Y r)
  (E:p.map (·.1)=vparts.map (·.1)) (F:cu w U ρ (p.map (·.2)) (vparts.map (·.2))):
  ∃x,(Instr.build t vparts.toArray).run P w=.ok x w/\Rv w U ρ r x:=by
 have b:∀a,rt P t=Y (.agg a)->∃z:Value,(zeroValue t).run P w=.ok z w/\cu w U ρ a z.cells.toList/\∀v∈z.cells.toList,v.oneCell'=Z:=by
  intro a g;unfold rt at g;split at g
  next i j=>simp only[dG]at g;have⟨z,d,e⟩:=g;have G:=pW (w:=w) (U:=U) (ρ:=ρ) z;rw[e]at G;have:=gJ (w:=w) (U:=U) (ρ:=ρ) (av:=.agg a) rfl G;exact⟨z,by simp[zeroValue,typeInfo,j,d],this.1,this.2⟩
  .cases g
 unfold L7 at h;split at h
 .rename_i a fs g y;split at h
  .rename_i A u;simp only[dG]at h;obtain⟨C,h,rfl⟩:=h;have⟨z,d,e,k⟩:=b a g;have⟨l,m,o,s⟩:=Bp p vparts _ _ _ h e k E F;refine⟨.agg l,?_,?_⟩
   .simp only[Ou]at m;have H:=Cj (w:=w) fs.toList A u;have c:(fs.mapM λf=>do pure (f.offset,<-Go.sizeOf f.type):Go.Sem (Array (Nat×Nat))).run P w=.ok A.toArray w:=by
     rw[Array.mapM_eq_mapM_toList,Sem.run_map,H];rfl
    have q:Instr.fill (λx=>A.toArray[x]?) z.cells vparts=Y l:=by simpa using m
    simp only[Instr.build,cw,d,ol,bm y,c,q,ry]
   .have:=Rv.agg (w:=w) (U:=U) (ρ:=ρ) C l.toList o.len s o.rv;simpa using this
  .cases h
 .rename_i a h0 D g y;split at h
  .rename_i n hn;simp only[dG]at h;obtain⟨C,h,rfl⟩:=h;have⟨z,d,e,k⟩:=b a g;have⟨l,m,o,s⟩:=Bp p vparts _ _ _ h e k E F;refine⟨.agg l,?_,?_⟩
   .simp only[Ou]at m;simp[Instr.build,d,bm y,cK hn,m]
   .have:=Rv.agg (w:=w) (U:=U) (ρ:=ρ) C l.toList o.len s o.rv;simpa using this
  .cases h
 .cases h
end
section
variable {P:Program} {w:World} {U:Nat->Prop} {ρ:Nat->Option Value}
theorem kY{k:IntKind}{i:Int}{y:Nat}(c:BoundsCode)(h:0<=i)(x:i<=y):(Instr.sliceBound (.int k i) y c).run P w=.ok i.toNat w:=by simp[Instr.sliceBound,asIntOf,h,x]
theorem Lk(s:zD)(l h:Nat):(⟨s.toArray⟩:ByteArray).extract l h=⟨((s.drop l).take (h-l)).toArray⟩:=by apply ByteArray.ext;simp[List.extract_eq_take_drop]
variable {v:Value}
theorem Av{x:R}{i:Int}(h:oW x=Y i)(a:Rv w U ρ x v):∃b,v=.int b i:=by
 unfold oW at h;split at h
 .cases h;cases a;exact⟨_,rfl⟩
 .cases h
variable {q s:Option R}
theorem D8{isS:Bool}{len cap:Nat}{j l:Option Value}{h m:Int}
  (d:(match q with|none=>Y 0|some a=>oW a)=Y h) (i:(match s with|none=>Y (len:Int)|some a=>oW a)=Y m)
  (e:∀a v,q=Y a->j=Y v->Rv w U ρ a v) (k:∀a v,s=Y a->l=Y v->Rv w U ρ a v)
  (x:q.isSome=j.isSome) (g:s.isSome=l.isSome) (n:0<=h) (t:h<=m) (z:m<=len) (A:len<=cap):
  (Instr.sliceBounds isS len cap j l none).run P w=.ok (h.toNat,m.toNat,cap) w:=by
 cases s with
 | none=>
  cases l with
  |some v=>simp at g
  |none=>
  simp at i;subst i;cases q with
  | none=>
   cases j with
   |some v=>simp at x
   |none=>simp at d;subst d;simp[Instr.sliceBounds]
  | some a=>
   cases j with
   |none=>simp at x
   | some v=>
    obtain⟨p,rfl⟩:=Av d (e _ _ rfl rfl);simp[Instr.sliceBounds,kY _ n t]
 | some b=>
  cases l with
  |none=>simp at g
  |some C=>
  obtain⟨p,rfl⟩:=Av i (k _ _ rfl rfl);have o:∀c,(Instr.sliceBound (.int p m) cap c).run P w=.ok m.toNat w:=λc=>kY c S S
  cases q with
  | none=>
   cases j with
   |some v=>simp at x
   |none=>simp at d;subst d;simp[Instr.sliceBounds,o]
  | some a=>
   cases j with
   |none=>simp at x
   | some v=>
    obtain⟨u,rfl⟩:=Av d (e _ _ rfl rfl);simp[Instr.sliceBounds,o,kY (y:=m.toNat) _ n S]
variable {t:TypeId}
theorem rP{x:R}{mx:Option R}{vlo vhi vmx:Option Value}{f:fb}(h:(tj P t x q s mx).val=Y f)
  (hx:Rv w U ρ x v) (h9:∀a g,q=Y a->vlo=Y g->Rv w U ρ a g) (C:∀a g,s=Y a->vhi=Y g->Rv w U ρ a g)
  (x0:∀a g,mx=Y a->vmx=Y g->Rv w U ρ a g) (E:q.isSome=vlo.isSome) (D:s.isSome=vhi.isSome) (F:mx.isSome=vmx.isSome):
  ∃r d,f={val:=r}/\(Instr.sliceAt t v vlo vhi vmx).run P w=.ok d w/\Rv w U ρ r d:=by
 have z:∀(a:Option Addr)(h8 h5:Nat)(n:TypeId)(k k':IntKind),P.underlying t=Y (.slice n)->(fL P n).isSome->
   (Instr.sliceAt t (.slice a h8 h5) none (Y (.int k 0)) (Y (.int k' 0))).run P w=.ok (.slice a 0 0) w:=by
  intro a h8 h5 n k k' A hs;have⟨sz,hs⟩:=Option.isSome_iff_exists.1 hs;simp[Instr.sliceAt,Instr.slice,bm A,Instr.sliceBounds,Instr.sliceBound,asIntOf,cK hs]
 unfold tj at h;split at h
 .rename_i m A;cases vmx with
  |some g=>simp at F
  |none=>
  split at h
  .rename_i l p h4 h3;simp at h;obtain⟨⟨⟨h0,H⟩,G⟩,rfl⟩:=h;cases hx with
   |str _ hs=>
   have hb:=D8 (P:=P) (w:=w) (U:=U) (ρ:=ρ) (isS:=false) (len:=M m) (cap:=M m) h4 h3 h9 C E D h0 H G (zK _);refine⟨_,.string ⟨((m.drop l.toNat).take (p.toNat-l.toNat)).toArray⟩,rfl,?_,.str _ sg⟩;simp[Instr.sliceAt,Instr.slice,bm A,CR,hb,Lk]
  .simp at h
 .rename_i n e m A;cases vmx with
  |some g=>simp at F
  |none=>
  split at h
  .rename_i y;split at h
   .rename_i l p h4 h3;simp at h;obtain⟨⟨⟨h0,H⟩,G⟩,rfl⟩:=h
    have h7:∀(a:Option Addr)(c:Nat),M m<=c->(Instr.sliceAt t (.slice a (M m) c) vlo vhi none).run P w=
      .ok (.slice (ite (c=l.toNat) a (a.map (·.add (l.toNat*e.size)))) (p.toNat-l.toNat) (c-l.toNat)) w:=by
     intro a c hc;have hb:=D8 (P:=P) (w:=w) (U:=U) (ρ:=ρ) (isS:=Z) (len:=M m) (cap:=c) h4 h3 h9 C E D h0 H G hc;simp[Instr.sliceAt,Instr.slice,bm A,hb,cK y]
    have u:((m.drop l.toNat).take (p.toNat-l.toNat)).length=p.toNat-l.toNat:=by simp;omega
    by_cases x3:l.toNat<p.toNat
    .cases hx with
     |sl0 _ a c=>simp at G;omega
     |sl _ _ b o c x1 hc hm hb hU x2 hr=>
     refine⟨_,_,rfl,h7 _ _ hc,?_⟩;rw[zh S];simp only[As,Addr.add_none]
     suffices hs:Rv w U ρ (.sl e ((m.drop l.toNat).take (p.toNat-l.toNat))) (.slice (Y ⟨b,o+l.toNat*e.size,none⟩) ((m.drop l.toNat).take (p.toNat-l.toNat)).length (c-l.toNat)) by
      rw[u]at hs;exact hs
     refine .sl e _ b (o+l.toNat*e.size) (c-l.toNat) (λi j=>x1 (l.toNat+i) j) (by rw[u];omega) (by rw[u];omega) hb hU (λi j s hj=>?_) (λi s j c' hx=>?_)
     .grind
     grind
    .have h6:(m.drop l.toNat).take (p.toNat-l.toNat)=[]:=by
      rw[show p.toNat-l.toNat=0 by omega];simp
     rw[h6];obtain⟨a,c,rfl,hm,hc⟩:=HW hx;refine⟨_,_,rfl,h7 a c hc,?_⟩;rw[show p.toNat-l.toNat=0 by omega];exact .sl0 e _ _
   .simp at h
  .simp at h
 .rename_i n e m k A;split at h
  .rename_i k';split at h
   .rename_i y;simp at h;subst h;cases vlo with
    |some g=>simp at E
    |none=>
    cases vhi with
    |none=>simp at D
    |some vh=>
    cases vmx with
    |none=>simp at F
    |some vm=>
    have H:=C _ _ rfl rfl;have G:=x0 _ _ rfl rfl;cases H;cases G;obtain⟨a,c,rfl,hm,hc⟩:=HW hx;exact⟨_,_,rfl,z _ _ _ n _ _ A y,.nils _⟩
   .simp at h
  .simp at h
 .rename_i n k A;split at h
  .rename_i k';split at h
   .rename_i y;simp at h;subst h;cases vlo with
    |some g=>simp at E
    |none=>
    cases vhi with
    |none=>simp at D
    |some vh=>
    cases vmx with
    |none=>simp at F
    |some vm=>
    have H:=C _ _ rfl rfl;have G:=x0 _ _ rfl rfl;cases H;cases G;cases hx;exact⟨_,_,rfl,z _ _ _ n _ _ A y,.nils _⟩
   .simp at h
  .simp at h
 .simp at h
structure jt (w w':World):Prop where
 sz:w.heap.size<=w'.heap.size
 os:w'.os=w.os
 out:w'.output=w.output
 tape:w'.tape=w.tape
theorem jt.refl(w:World):jt w w:=⟨zK _,rfl,rfl,rfl⟩
theorem jt.trans{a b c:World}(h:jt a b)(x:jt b c):jt a c:=
 ⟨aB h.sz x.sz,x.os.trans h.os,x.out.trans h.out,x.tape.trans h.tape⟩
structure Ef (n:Nat) (hp:Nat->AO) (f:fb) (w:World) (U:Nat->Prop) (ρ:Nat->Option Value) (v:Value) (w':World) (U':Nat->Prop) (ρ':Nat->Option Value):Prop where
 ext:jt w w'
 val:Rv w' U' ρ' f.val v
 wr:∀id o,(id,o)∈f.wr->aW w' U' ρ' id o
 nw:∀(j:Nat) o,f.nw[j]?=Y o->aW w' U' ρ' (n+j) o
 rho:∀id,(id<n\/n+f.nw.length<=id)->ρ' id=ρ id
 rhon:∀id v,ρ id=Y v->ρ' id=Y v
 same:∀b,b<w.heap.size->(∀id o,(id,o)∈f.wr->¬zY ρ id (hp id) b)->w'.heap[b]?=w.heap[b]?
 ub:∀b,U' b->b<w'.heap.size
 u1:∀b,b<w.heap.size->U' b->U b
 u2:∀b,b<w.heap.size->U b->(∀id o,(id,o)∈f.wr->¬zY ρ id (hp id) b)->U' b
 own:∀id o b,((id,o)∈f.wr\/(n<=id/\f.nw[id-n]?=Y o))->zY ρ' id o b->w.heap.size<=b\/∃id' o',(id',o')∈f.wr/\zY ρ id' (hp id') b
 inj:∀id1 o1 id2 o2 b,((id1,o1)∈f.wr\/(n<=id1/\f.nw[id1-n]?=Y o1))->((id2,o2)∈f.wr\/(n<=id2/\f.nw[id2-n]?=Y o2))->
  zY ρ' id1 o1 b->zY ρ' id2 o2 b->id1=id2
variable {n:Nat}{h:Nat->AO}
theorem Ef.pure{r:R}(a:∀b,U b->b<w.heap.size)(x:Rv w U ρ r v):Ef n h {val:=r} w U ρ v w U ρ where
 ext:=jt.refl w
 val:=x
 wr:=by simp
 nw:=by simp
 rho:=λ_ _=>rfl
 rhon:=λ_ _ x=>x
 same:=λ_ _ _=>rfl
 ub:=a
 u1:=λ_ _ x=>x
 u2:=λ_ _ x _=>x
 own:=by simp
 inj:=by simp
theorem bH(w:World)(o:Obj)(b:Nat)(h:b<w.heap.size):(w.alloc o).heap[b]?=w.heap[b]?:=by show(w.heap.push o)[b]?=w.heap[b]?;grind
theorem ce(w:World)(o:Obj):(w.alloc o).heap[w.heap.size]?=Y o:=by show(w.heap.push o)[w.heap.size]?=Y o;rw[Array.getElem?_push,zf rfl]
theorem ba(w:World)(o:Obj):(w.alloc o).heap.size=w.heap.size+1:=by simp_all
theorem jt.alloc(w:World)(c:Array Value)(t:TypeId):jt w (w.alloc (.cells c t)) where
 sz:=by rw[ba];omega
 os:=rfl
 out:=rfl
 tape:=rfl
def iM(ρ:Nat->Option Value)(n:Nat)(v:Value):Nat->Option Value:=λid=>if id=n then Y v else ρ id
theorem fa(a:ρ n=none):∀id x,ρ id=Y x->iM ρ n v id=Y x:=by intro id x h;unfold iM;grind
theorem Ef.box{d:List R}{a:Array Value}(C:∀b,U b->b<w.heap.size)(m:ρ n=none)
  (z:cu w U ρ d a.toList) (k:∀v∈a.toList,v.oneCell'=Z) (l:(!ff d||t==xZ)=Z):
  Ef n h {val:=.ptr n 0,nw:=[.box d]} w U ρ (.pointer (Y ⟨w.heap.size,0,none⟩)) (w.alloc (.cells a t)) (λb=>U b\/b=w.heap.size) (iM ρ n (.pointer (Y ⟨w.heap.size,0,none⟩))):=by
 have y:∀b,b<w.heap.size->¬U b->(w.alloc (.cells a t)).heap[b]?=w.heap[b]?:=λb c _=>bH w _ b c
 have p:∀b,b<w.heap.size->(U b\/b=w.heap.size)->U b:=λb c x=>x.elim id (λe=>by omega)
 have A:w.heap.size<=(w.alloc (.cells a t)).heap.size:=by rw[ba];omega
 refine⟨jt.alloc w a t,.ptr n 0 _ (by simp[iM]),sw,?_,?_,fa m,λb c _=>bH w _ b c,?_,λb c x=>p b c x,λb _ x _=>.inl x,?_,?_⟩
 .intro j o i;cases j with
  |succ j=>simp at i
  | zero=>
   simp at i;subst i;exact⟨w.heap.size,t,a,by simp[iM],.inr rfl,ce w _,z.mono A y p (fa m),k,λq=>by rw[q]at l;simpa using l⟩
 .intro id x;unfold iM;rw[zh (by simp at x;omega)]
 .intro b x;rw[ba];grind
 .rintro id o b (x|⟨k,h2⟩) ho
  .simp at x
  .have:id-n=0:=by
    by_cases u:id-n=0
    .exact u
    .simp_all
   have g:id=n:=by omega
   subst g;have⟨_,v,s,c⟩:=ho;simp[iM]at s;subst s;simp[bz]at c;exact .inl S
 grind
end
section
variable {P:Program} {w:World} {U:Nat->Prop} {ρ:Nat->Option Value}
variable {a:Array Value}{t:TypeId}
theorem dH(w:World)(b o:Nat)(v:Value){x:Nat×Nat}(h:w.heap[b]?=Y (.cells a t x)):
  (w.setCell ⟨b,o,none⟩ v).heap[b]?=Y (.cells (a.setIfInBounds o v) t x):=by simp[World.setCell,oe,h]
theorem eW(w:World)(b o x:Nat)(v:Value)(h:x≠b):(w.setCell ⟨b,o,none⟩ v).heap[x]?=w.heap[x]?:=by simp only[World.setCell,oe];rw[zh (λe=>h e.symm)]
theorem ja:∀(d:List Value)(w:World)(b o:Nat){a:Array Value}{x:TypeId}{c:Nat×Nat},w.heap[b]?=Y (.cells a x c)->
  (w.setCells b o d).heap[b]?=Y (.cells (nS a.toList o d).toArray x c)
 |[],_,_,_,_,_,_,h=>by simpa[World.setCells,nS]using h
 | v::r,w,b,o,a,x,c,h=>by
  rw[World.setCells];have:=ja r _ b (o+1) (dH w b o v h);rw[this];simp[nS]
theorem bZ:∀(a:List Value)(w:World)(b o x:Nat),x≠b->(w.setCells b o a).heap[x]?=w.heap[x]?
 |[],_,_,_,_,_=>rfl
 | v::r,w,b,o,x,h=>by
  rw[World.setCells,bZ r _ b (o+1) x h,eW w b o x v h]
theorem kd(w:World)(a:Addr)(v:Value):(w.setCell a v).heap.size=w.heap.size:=by simp[World.setCell]
theorem jt.setCells:∀(x:List Value)(w:World)(b o:Nat),jt w (w.setCells b o x)
 |[],w,_,_=>jt.refl w
 | v::r,w,b,o=>by
  have h:jt w (w.setCell ⟨b,o,none⟩ v):=⟨by rw[kd];exact zK _,rfl,rfl,rfl⟩;rw[World.setCells];exact h.trans (jt.setCells r _ b (o+1))
theorem jc:∀(h:List Value)(w:World)(b o:Nat),(w.setCells b o h).heap.size=w.heap.size
 |[],_,_,_=>rfl
 |v::r,w,b,o=>by rw[World.setCells,jc r,kd]
theorem lc:∀(l h:List Value)(o q:Nat),(nS h o l)[q]?=if o<=q/\q<o+M l/\q<M h then l[q-o]? else h[q]?
 | [],h,o,q=>by
  rw[zh sg];rfl
 | v::l,h,o,q=>by
  rw[nS,lc l _ (o+1) q];grind
variable {n:Nat}
theorem ox{v:Value}{o sz:Nat}{z:TypeId}(b:fL P t=Y sz)(l:v.cells.toList.length=sz)
  (c:w.heap[n]?=Y (.cells a z (0,0))) (i:o+sz<=a.size) (d:∀x∈v.cells.toList,x.oneCell'=Z):
  (storeVar t ⟨n,o,none⟩ v).run P w=.ok () (w.setCells n o v.cells.toList):=by
 have e:∀j,j<v.cells.toList.length->(w.cell? ⟨n,o+0+j,none⟩).isSome=Z:=by
  intro j k;have:o+j<a.size:=by omega
  simp[World.cell?,c,oP this]
 have g:∀j,j<v.cells.toList.length->w.frozen? ⟨n,o+0+j,none⟩=false:=by
  intro j k;simp[World.frozen?,c]
 have:=run_storeCells_cells (P:=P) n o v.cells.toList 0 w e g d;rw[w6]at this;have h:v.cells.size=sz:=by simpa using l
 simp[storeVar,cK b,h,this]
variable {id off:Nat}{h:Nat->AO}{d:List R}
theorem Ef.store{vs:List R}{C:Nat}{vv:List Value}(F:∀C,U C->C<w.heap.size)(i:h id=.box d)
  (p:ρ id=Y (.pointer (Y ⟨C,0,none⟩))) (o:U C) (u:w.heap[C]?=Y (.cells a t (0,0))) (D:cu w U ρ d a.toList) (q:∀v∈a.toList,v.oneCell'=Z)
  (G:cu w U ρ vs vv) (m:∀x∈vv,x.oneCell'=Z) (s:ff (setCells d off vs)=Z->t=xZ):
  Ef n h {val:=.tup [],wr:=[(id,.box (setCells d off vs))]} w U ρ undef (w.setCells C off vv) U ρ:=by
 have j:zY ρ id (h id) C:=⟨by rw[i];rfl,_,p,rfl⟩;have y:∀c,c<w.heap.size->¬U c->(w.setCells C off vv).heap[c]?=w.heap[c]?:=λc _ g=>bZ _ _ _ _ _ (λe=>g (e▸o))
 have E:w.heap.size<=(w.setCells C off vv).heap.size:=by rw[jc];exact zK _
 refine⟨jt.setCells vv w C off,.tup [] [] rfl sw,?_,sw,λ_ _=>rfl,λ_ _ b=>b,?_,?_,λ_ _ b=>b,λ_ _ b _=>b,?_,?_⟩
 .intro k H b;simp at b;obtain⟨rfl,rfl⟩:=b;refine⟨C,t,(nS a.toList off vv).toArray,p,o,ja vv w C off u,?_,?_,s⟩
  .simpa using(Ab vs vv d a.toList off D G).mono E y (λ_ _ b=>b) (λ_ _ b=>b)
  .simpa using CM vv a.toList off q m
 .intro c _ z;exact bZ _ _ _ _ _ (λe=>z id _ (by simp;rfl) (e▸j))
 .grind
 .rintro k H c (b|⟨_,b⟩) A
  .simp at b;obtain⟨rfl,rfl⟩:=b;refine .inr ⟨k,_,by simp;rfl,?_⟩;have⟨_,v,l,g⟩:=A;exact⟨by rw[i];rfl,v,l,g⟩
  .simp at b
 simp_all
variable {A:AO}
theorem qd{U':Nat->Prop}(g:aW w U ρ id A)(x:nH A=Z)(n:∀b,U' b->U b)(o:∀b,zY ρ id A b->¬U' b):aW w U' ρ id (Bz A):=by
 cases A with
 | frz e l=>
  have⟨v,d,m⟩:=g;exact⟨v,d,m.weak n⟩
 | vec e l=>
  have i:=g;have⟨a,c,d,m,q⟩:=g
  have:=sF (w:=w) (U:=U) (U':=U') (ρ:=ρ) (hp:=λ_=>.vec e l) (e:=e) (c:=.vec id) (l:=l) (by simp[oX]) (.vec id _ d rfl) n
   (λj h=>by simp[cJ]at h;subst h;exact i) (λj h=>by simp[cJ]at h;subst h;exact o)
  exact⟨_,d,this⟩
 |dead=>simp[nH]at x
 |box p=>simp[nH]at x
 |fmap k=>simp[nH]at x
 |vmap u k=>simp[nH]at x
 |gmap e k=>simp[nH]at x
variable {u:List Nat}
theorem dD(x:(id,A)∈gm h u):id∈u/\A=Bz (h id):=by simp only[gm,aN,cz]at x;grind
theorem qe(x:id∈u):(id,Bz (h id))∈gm h u:=by simp only[gm,aN,cz];exact⟨id,x,rfl,rfl⟩
theorem pk(h:nH A=Z):(Bz A).owns=false:=by cases A<;>simp[nH]at h<;>rfl
theorem JM:∀(e:Sh)(y:N e)(q:Nat)(c:R),(zq e y)[q]?=Y c->cJ c=[]:=by
 intro e
 induction e with
 |unit=>intro y q c h;simp[zq]at h
 |bool=>intro y q c h;cases q<;>simp[zq]at h;subst h;rfl
 |int k=>intro y q c h;cases q<;>simp[zq]at h;subst h;rfl
 |str=>intro y q c h;cases q<;>simp[zq]at h;subst h;rfl
 |sl e d=>intro y q c h;cases q<;>simp[zq]at h;subst h;rfl
 | pr a b i x=>
  intro y q c h;simp only[zq]at h;grind
 | expr=>
  intro y q c h
  match q with
  |0=>simp[zq]at h;subst h;rfl
  |1=>simp[zq]at h;subst h;rfl
  |2=>simp[zq]at h;subst h;rfl
  |3=>simp[zq]at h;subst h;rfl
  |4=>simp[zq]at h;subst h;rfl
  |5=>simp[zq]at h;subst h;rfl
  |_+6=>simp[zq]at h
theorem uj:∀(x e:List R)(o:Nat)(c:R),c∈setCells e o x->c∈e\/c∈x
 |[],_,_,_,h=>.inl h
 | v::x,e,o,c,h=>by
  rcases uj x _ _ c h with h|h
  .grind
  .exact .inr (by simp[h])
theorem Ef.storeVec{i:Nat}{D:Sh}{l:List (N D)}{x:N D}{b c:Nat}{e:List Value}(i1:∀b,U b->b<w.heap.size)(h9:h id=.vec D l)
  (hρ:ρ id=Y (.slice (Y ⟨b,0,none⟩) (M l) c)) (hc:0<c) (hU:U b) (hb:w.heap[b]?=Y (.cells a t (0,0))) (hm:M l<=af) (a6:a.size=c*D.size) (a0:M l<=c)
  (hr:∀i(hi:i<M l)(j:Nat)(c:R),(zq D l[i])[j]?=Y c->∃v,a[i*D.size+j]?=Y v/\Rv w U ρ c v)
  (hv:cu w U ρ d e) (a9:off+M d<=D.size) (hi:i<M l)
  (x0:cW h D (setCells (zq D l[i]) off d)=Y (x,[]))
  (C:∀j∈d.flatMap cJ,nH (h j)=Z/\j≠id) (a4:∀j∈d.flatMap cJ,aW w U ρ j (h j))
  (x1:∀j∈d.flatMap cJ,∀b,zY ρ j (h j) b->¬zY ρ id (h id) b) (x6:D=.int .u8->t=Yl):
  Ef n h {val:=.tup [],wr:=(id,.vec D (l.set i x))::gm h (d.flatMap cJ)} w U ρ undef (w.setCells b (i*D.size+off) e)
   (λb=>U b/\¬∃j∈d.flatMap cJ,zY ρ j (h j) b) ρ:=by
 have F:zY ρ id (h id) b:=⟨by rw[h9];rfl,_,hρ,by simp[bz];omega⟩;have a1:¬∃j∈d.flatMap cJ,zY ρ j (h j) b:=λ⟨j,p,s⟩=>x1 j p b s F
 generalize G:(λb=>U b/\¬∃j∈d.flatMap cJ,zY ρ j (h j) b)=E;have y:∀b,E b->U b:=λb g=>by rw[<-G]at g;exact g.1
 have x8:∀j∈d.flatMap cJ,∀b,zY ρ j (h j) b->¬E b:=λj p b s g=>by grind
 have h5:E b:=by rw[<-G];exact⟨hU,a1⟩
 have hk:∀z,z<w.heap.size->¬E z->(w.setCells b (i*D.size+off) e).heap[z]?=w.heap[z]?:=λz _ H=>bZ _ _ _ _ _ (λD=>H (D▸h5))
 have hs:w.heap.size<=(w.setCells b (i*D.size+off) e).heap.size:=by rw[jc];exact zK _
 have h4:∀{u:R}{v:Value},Rv w E ρ u v->Rv (w.setCells b (i*D.size+off) e) E ρ u v:=λg=>g.mono hs hk (λ_ _ g=>g) (λ_ _ g=>g)
 have h6:=ja e w b (i*D.size+off) hb;have a8:M e=M d:=hv.len.symm;have x3:(i+1)*D.size<=c*D.size:=gu _ S;rw[jG]at x3;have x7:∀(j:Nat)(u:R),(zq D x)[j]?=Y u->Rv w E ρ u ((nS a.toList (i*D.size+off) e)[i*D.size+j]?.getD undef):=by
  have a5:cu w U ρ (zq D l[i]) ((List.range D.size).map λj=>(a[i*D.size+j]?).getD undef):=by
   refine⟨by simp[zS],λj u v o hv=>?_⟩;simp only[b8,dG]at hv;obtain⟨j',p,rfl⟩:=hv;have⟨h3,x9⟩:=qy p;subst x9;have⟨v,h1,h2⟩:=hr i hi _ u o;rw[h1];exact h2
  have x4:=Ab d e _ _ off a5 hv;refine(nG (w:=w) (U:=U) (U':=E) (ρ:=ρ) (hp:=h) y D _ x [] (λj=>(nS a.toList (i*D.size+off) e)[i*D.size+j]?.getD undef) x0 ?_ ?_).q
  .intro j u p;have h3:j<D.size:=by
    have:=(cQ.1 p).1
    rwa [oz,zS]at this
   refine x4.rv j u _ p ?_;have x2:i*D.size+j<a.size:=by omega
   rw[lc,lc];grind
  .intro j p;have i0:j∈d.flatMap cJ:=by
    simp only[D2]at p|-;have⟨u,o,p⟩:=p;rcases uj _ _ _ _ o with g|g
    .have⟨q,hq⟩:=List.mem_iff_getElem?.1 g;rw[JM D _ q u hq]at p;simp at p
    .exact⟨u,g,p⟩
   grind
 refine⟨jt.setCells e w b _,.tup [] [] rfl sw,?_,sw,λ_ _=>rfl,λ_ _ g=>g,?_,?_,λz _ g=>y z g,?_,?_,?_⟩
 .intro k o' g;simp only[bD,cz]at g;rcases g with⟨rfl,rfl⟩|g
  .refine⟨_,c,by rw[hρ];simp,by simpa using hm,.inr ⟨b,t,(nS a.toList (i*D.size+off) e).toArray,rfl,hc,h5,h6,by simp[gV,a6],by simpa using a0,?_,x6⟩⟩;intro i' h8 j u o;simp only[wZ]at h8;by_cases h0:i=i'
   .subst h0;have h7:(zq D x)[j]?=Y u:=by simpa using o
    have h3:j<D.size:=by have:=(cQ.1 h7).1;rwa [zS]at this
    have x2:i*D.size+j<(nS a.toList (i*D.size+off) e).length:=by rw[gV];simp;omega
    grind
   .rw[List.getElem_set_ne h0]at o;have⟨v,h1,h2⟩:=hr i' h8 j u o;refine⟨v,?_,h4 (h2.weak y)⟩;have h3:j<D.size:=by have:=(cQ.1 o).1;rwa [zS]at this
    have a2:¬(i*D.size+off<=i'*D.size+j/\i'*D.size+j<i*D.size+off+M e/\i'*D.size+j<a.toList.length):=by
     rintro⟨q1,q2,_⟩;rcases Nat.lt_or_gt_of_ne h0 with A|A
     .have:=gu D.size (D1 A);grind
     .have:=gu D.size (D1 A);grind
    simp only[Ot];rw[lc,zh a2];simpa using h1
  .obtain⟨m,rfl⟩:=dD g;refine(qd (a4 k m) (C k m).1 y (x8 k m)).mono hs hk (λ_ _ g=>g) (λ_ _ g=>g) ?_;intro z s;have:=pk (C k m).1;rw[zY,this]at s;simp at s
 .intro z _ hn;exact bZ _ _ _ _ _ (λe'=>hn id _ (by simp;exact .inl rfl) (e'▸F))
 .grind
 .intro z _ g hn;rw[<-G];exact⟨g,λ⟨j,p,s⟩=>hn j _ (og _ (qe p)) s⟩
 .rintro k o' z (g|⟨_,g⟩) s
  .simp only[bD,cz]at g;rcases g with⟨rfl,rfl⟩|g
   .refine .inr ⟨k,_,sy,?_⟩;have⟨_,v,a7,H⟩:=s;exact⟨by rw[h9];rfl,v,a7,H⟩
   .obtain⟨m,rfl⟩:=dD g;have:=pk (C k m).1;rw[zY,this]at s;simp at s
  .simp at g
 .rintro i2 o1 i3 o2 z (g|⟨_,g⟩) (h'|⟨_,h'⟩) s a3
  .have x5:∀k o',(k,o')∈((id,AO.vec D (l.set i x))::gm h (d.flatMap cJ))->zY ρ k o' z->k=id:=by
    intro k o' g s;simp only[bD,cz]at g;rcases g with⟨rfl,_⟩|g
    .rfl
    .obtain⟨m,rfl⟩:=dD g;have:=pk (C k m).1;rw[zY,this]at s;simp at s
   rw[x5 _ _ g s,x5 _ _ h' a3]
  all_goals simp at g h'
end
end Cad
