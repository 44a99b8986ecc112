/- The library's functions over texts. -/
import Derived.Test.YtgcekmmgphhofaaGreatDoorR15
namespace Cad
open Go Go.Proofs Tryz
open List renaming length->Io,drop->Qh,take->Qg,length->M
open IntKind renaming wrap->Γ,i64->Δ
open Tr renaming chk->Qd
open Sh renaming bool->Q8,str->Q7,expr->Q6
open Bool renaming true->Z,false->J
open Option renaming none->Q2,some->Q1,some->Y
open Decidable renaming decide->L
open Int renaming toNat->T
open List renaming getD->W
open Tr (chk br re)
open AV (nils agg tup ptr kb str sl)
open AV renaming str->X,sl->O
open Cad renaming ow->S,ai->I,Tr->K,Sem->N,ze->Q,AV->R
noncomputable section
open Go.RowKit Go.Lib in
theorem zfI:FK 257 (ae [.str,.str] [.bool] (λx=>M x.2.1==1) λx=>(L (0<=Lib.indexByte x.1 (x.2.1.headD 0)),())):=by
 refine cY (E:=q9) ⟨f257,kw,kw,kw⟩ λx y p h=>?_
 unfold dJ at h;split at h
 .simp only[Tr.val]at h;split at h
  .rename_i g;simp only[ax]at h;subst h;have⟨s,d,u⟩:=x;have g:(M d==1)=Z:=g
   match d,g with
   | [c],_=>
    intro C w U D v _ b l a i m;have n:=b.len
    match v,n,b with
    | [q,t],_,b=>
     have j:=b.rv 0 (.str s) q rfl rfl;have k:=b.rv 1 (.str [c]) t rfl rfl;cases j with
     |str _ z=>
     cases k with
     |str _ o=>
     refine(Tryz.strings_Contains_one ⟨s.toArray⟩ c w).mono ?_;rintro e A ⟨rfl,rfl⟩;exact cI l a i m (Below.refl _ _) (.bool _)
  .cases h
 .simp at h
def F63:zV:=ae [.str,.str] [.bool] (λx=>M x.2.1==1) λx=>(L (0<=Lib.indexByte x.1 (x.2.1.headD 0)),())
theorem zlP:FK 257 F63:=zfI
def F89:zV:=ae [.str] [.str] (λx=>L (M x.1<=140737488355328)&&x.1.all λb=>L (b.toNat<128)) λx=>(Lib.toUpperA x.1,())
open Go.RowKit Go.Lib in
theorem zl9:FK 186 F89:=by
 refine cY (E:=q9) ⟨f186,kw,kw,kw⟩ λx D z h=>?_
 unfold dJ at h;split at h
 .simp only[Tr.val]at h;split at h
  .rename_i a;simp only[ax]at h;subst h;have⟨s,u⟩:=x;have a:(L (M s<=140737488355328)&&s.all λb=>L (b.toNat<128))=Z:=a;simp only[ar,aT]at a;have⟨i,a⟩:=a;intro C w U G v _ d m c k n;have q:=d.len
   match v,q,d with
   | [A],_,d=>
    have l:=d.rv 0 (.str s) A rfl rfl;cases l with
    |str _ y=>
    refine(Tryz.strings_ToUpper_ascii ⟨s.toArray⟩ w (by simpa[ByteArray.size]using i) (λj b p=>?_)).mono ?_
    .have t:b∈s:=fw (by simpa using p);simp only[dg,aT]at a;exact a b t
    .rintro e F ⟨rfl,o⟩;have g:=cI (r:=.str (Lib.toUpperA s)) m c k n o (.str _ (by simpa[Lib.toUpperA]using y));exact g
  .cases h
 .simp at h
def nl:Nat->Nat->zD
 |0,_=>[]
 |f+1,n=>if n<10 then[UInt8.ofNat (48+n)]else nl f (n/10)++[UInt8.ofNat (48+n%10)]
def rm(n:Int):zD:=if n<0 then 45::nl 20 n.natAbs else nl 20 n.natAbs
theorem Gk:∀(f n:Nat),n<10^f->0<f->nl f n=Lib.decDigits n
 |0,_,_,h=>by omega
 | f+1,n,h,_=>by
  rw[nl,Lib.decDigits];split
  .rfl
  .rename_i a;have x:0<f:=by
    cases f with
    |zero=>simp at h;omega
    |succ f=>omega
   rw[Gk f (n/10) (by rw[sD]at h;omega) x]
theorem AL:∀(f n:Nat),(nl f n).length<=f
 |0,_=>by simp[nl]
 | f+1,n=>by
  rw[nl];split
  .simp
  .have:=AL f (n/10);simp;omega
theorem vY(n:Int):(rm n).length<=21:=by unfold rm;have:=AL 20 n.natAbs;split<;>simp<;>omega
theorem BH(n:Int)(h:bq .i64 n):Lib.itoa n=rm n:=by
 have x:-9223372036854775808<=n:=h.1;have a:n<=9223372036854775807:=h.2;unfold Lib.itoa rm;split
 .rw[Gk 20 _ S S]
 .rw[Gk 20 _ S S];congr 1;omega
def zjt:zV:=ae [zi,zi] [.str] (λx=>x.2.1==10) λx=>(rm x.1,())
open Go.RowKit Go.Lib in
theorem zes:FK 243 zjt:=by
 refine cY (E:=q9) ⟨f243,kw,kw,kw⟩ λx h0 G a=>?_
 unfold dJ at a;split at a
 .simp only[Tr.val]at a;split at a
  .rename_i i;simp only[ax]at a;subst a;have⟨n,b,u⟩:=x;have i:(b==10)=Z:=i;simp only[be]at i;subst i;intro C w U ρ v _ d t c m o;have D:=d.len
   match v,D,d with
   | [H,P],_,d=>
    have p:=d.rv 0 (I n) H rfl rfl;have q:=d.rv 1 (I 10) P rfl rfl;cases p with
    |int _ _ l=>
    cases q;have s:Rv w U (λ_=>Q2) (.tab .u64 jA) (.pointer (Q1 ⟨3,0,Q2⟩)):=o.gl 3;have g:Lib.TabIs prog w "internal/strconv.uint64pow10" .u64 Lib.pow10Tab:=by
     cases s with
     |tab _ _ _ h fr y hU=>
     have z:prog.globalNamed "internal/strconv.uint64pow10"=Q1 3:=by kernel_rfl
     have F:Lib.pow10Tab=jA:=by decide+kernel
     unfold Lib.TabIs World.var?;rw[z,F];simp only[Option.bind_some,y]
    refine(Tryz.strconv_FormatInt_10 n l.1 l.2 w g).mono ?_;rintro e w' ⟨rfl,k,os,rfl⟩;rw[BH n l];exact cI (r:=.str (rm n)) t c m o ⟨rfl,rfl,rfl,by show w.heap.size<=(w.heap++os).size;simp,λj A=>by show(w.heap++os)[j]?=w.heap[j]?;rw[Array.getElem?_append_left A]⟩ (.str _ (by have:=vY n;unfold af;omega))
  .cases a
 .simp at a
theorem ua(o n:zD):∀(k:Nat)(s:zD),(Lib.replaceK o n k s).length<=M s+k*M n
 |0,s=>by simp[Lib.replaceK]
 | k+1,s=>by
  rw[Lib.replaceK];split
  .omega
  .have:=ua o n k (s.drop ((Lib.index s o).toNat+M o));simp only[cL,kG,List.length_drop]at this|-;rw[jG];omega
theorem kX(s o n:zD):(Lib.replaceAll s o n).length<=M s+(M s+1)*M n:=by
 unfold Lib.replaceAll Lib.replace;split
 .omega
 .refine aB (ua o n _ s) ?_;have h:=Lib.count_le s o;have:Lib.replaceNum s o (-1)=Lib.count s o:=by unfold Lib.replaceNum;rw[zf (.inl S)]
  rw[this];have:=gu (M n) h;omega
def t7(s o n:zD):Bool:=L (M s<=4000000000)&&(L (1<=M o)&&L (M n<=1000))
def zju:zV:=ae [.str,.str,.str] [.str] (λx=>t7 x.1 x.2.1 x.q.1) λx=>(Lib.replaceAll x.1 x.2.1 x.q.1,())
open Go.RowKit Go.Lib in
theorem zet:FK 244 zju:=by
 refine cY (E:=q9) ⟨f244,kw,kw,kw⟩ λx h0 h9 a=>?_
 unfold dJ at a;split at a
 .simp only[Tr.val]at a;split at a
  .rename_i d;simp only[ax]at a;subst a;have⟨s,o,n,u⟩:=x;have d:t7 s o n=Z:=d;unfold t7 at d;simp only[ar,aT]at d;have⟨h4,g,i⟩:=d;intro C w U ρ v _ b P j y z;have hl:=b.len
   match v,hl,b with
   | [v1,v2,v3],_,b=>
    have F:=b.rv 0 (.str s) v1 rfl rfl;have G:=b.rv 1 (.str o) v2 rfl rfl;have H:=b.rv 2 (.str n) v3 rfl rfl;cases F with
    |str _ h6=>
    cases G with
    |str _ h7=>
    cases H with
    |str _ h8=>
    have l:Rv w U (λ_=>Q2) .gint (.pointer (Y ⟨0,0,Q2⟩)):=z.gl 0;have p:∃m:Int,w.cell? ⟨0,0,Q2⟩=Y (.int .i64 m):=by
     cases l with
     |gint m _ h fr _ hb _=>exact⟨m,by simp[World.cell?,hb]⟩
    have⟨m,hm⟩:=p;have h5:=Lib.countB_le (⟨o.toArray⟩:ByteArray) (by simpa[ByteArray.size]using g) (M s) (⟨s.toArray⟩:ByteArray) (by simp[ByteArray.size]);have k:(⟨s.toArray⟩:ByteArray).size=M s:=by simp[ByteArray.size]
    have t:(⟨n.toArray⟩:ByteArray).size=M n:=by simp[ByteArray.size]
    have D:Lib.countB (⟨s.toArray⟩:ByteArray) ⟨o.toArray⟩*M n<=4000000000*1000:=D4 S i;refine(Tryz.strings_ReplaceAll ⟨s.toArray⟩ ⟨o.toArray⟩ ⟨n.toArray⟩ m w (by rw[k];omega) hm (by simpa[ByteArray.size]using g) (by rw[k,t];omega)).mono ?_;rintro e w' ⟨rfl,c⟩;refine cI (r:=.str (Lib.replaceAll s o n)) P j y z c (.str _ ?_);have A:=kX s o n;have q:(M s+1)*M n<=4000000001*1000:=D4 S i;unfold af;omega
  .cases a
 .simp at a
def zjs:zV:=ae [.sl .str,.str] [.str] (λx=>L (M x.1<=140737488355328)&&L ((Lib.join x.1 x.2.1).length<=140737488355328)) λx=>(Lib.join x.1 x.2.1,())
open Go.RowKit Go.Lib in
theorem zer:FK 387 zjs:=by
 refine cY (E:=q9) ⟨f387,kw,kw,kw⟩ λx h0 h7 d=>?_
 unfold dJ at d;split at d
 .simp only[Tr.val]at d;split at d
  .rename_i k;simp only[ax]at d;subst d;have⟨l,h,u⟩:=x;have k:(L (M l<=140737488355328)&&L ((Lib.join l h).length<=140737488355328))=Z:=k;simp only[ar,aT]at k;have⟨t,k⟩:=k;have h5:af=9223372036854775807:=rfl;intro C w U ρ D _ p hH i A hW;have hl:=p.len
   match D,hl,p with
   | [v1,v2],_,p=>
    have H:=p.rv 0 (.sl .str l) v1 rfl rfl;have h2:=p.rv 1 (.str h) v2 rfl rfl;cases h2 with
    |str _ h6=>
    generalize y:l=l0 at H k t p;cases H with
    | sl0 _ a c=>
     subst y;refine(Tryz.strings_Join_none a c ⟨h.toArray⟩ w).mono ?_;rintro e w' ⟨rfl,rfl⟩;exact cI (r:=.str []) hH i A hW (Below.refl _ _) (.str _ sw)
    | sl _ _ b o c v F hm hb hU m G=>
     subst y;have d:∀(j:Nat) x,(l.map λs=>(⟨s.toArray⟩:ByteArray))[j]?=Y x->w.cell? ⟨b,o+j,Q2⟩=Y (.string x):=by
      intro j x n;simp only[b8,dG]at n;obtain⟨s,hs,rfl⟩:=n;obtain⟨z,rfl⟩:=cQ.1 hs;have P:=m j 0 z (by simp[Sh.size]);have h4:=G j z 0 (.str l[j]) rfl;simp only[Sh.size,Nat.mul_one,w6]at P;rw[P];generalize v j 0=vv at h4;cases h4;rfl
     have g:(l.map λs=>(⟨s.toArray⟩:ByteArray)).map (·.data.toList)=l:=by
      simp[wY]
     have n:=Tryz.strings_Join b o c (l.map λs=>(⟨s.toArray⟩:ByteArray)) ⟨h.toArray⟩ w d hb (by simpa using t) (by simpa using F) (by rw[g];exact k);rw[g]at n;simp only[bR]at n;refine n.mono ?_;rintro e w' ⟨rfl,q⟩;exact cI (r:=.str (Lib.join l h)) hH i A hW q (.str _ S)
  .cases d
 .simp at d
def ra:=q9.addL [(257,F63),(186,F89),(243,zjt),(244,zju),(387,zjs)]
theorem iR:zm ra:=RF.addL<|fc zlP<|fc zl9<|fc zes<|fc zet<|fc zer ip
variable {C:eS}
theorem Reach.promNil{E:bS}{fn:FuncId}{t:List Item}{u:St}(e:Sh)(P:∀id,C.ρ0 id=Q2)(h:Reach E C fn t u (λr h=>(r,h)=(.nils,[]))):Reach E C fn t u (λr h=>(r,h)=(.vec 0,[.vec e []])):=by
 intro b z a w U ρ G H hc hW;have⟨A,y,D,⟨v,r,h',p,ρ',he,hq,n,hH,q,h6,k⟩,l,hf,hl⟩:=h b z a w U ρ G H hc hW;cases hq;cases n with
 |nils i=>
 have c:∀id o b,o=(AO.vec e []:AO)\/o=AO.dead->¬zY (λid=>if id=0 then Y (.slice i 0 0)else Q2) id o b:=by
  rintro id o b ho ⟨h3,x,h4,h5⟩;rcases ho with rfl|rfl
  .simp only at h4;split at h4
   .cases h4;cases i<;>simp[bz]at h5
   .cases h4
  .simp[AO.owns]at h3
 have g:∀id,(([AO.vec e []]:List AO).getD id .dead)=(ite (id=0) (AO.vec e []) AO.dead):=by
  intro id;cases id<;>simp
 refine⟨A,y,D,⟨_,_,_,p,λid=>if id=0 then Y (.slice i 0 0)else Q2,he,rfl,.vec 0 _ sw (by simp[Value.oneCell']),⟨λid=>?_,λj h7 b o=>?_,λid b o=>?_⟩,λid m=>?_,λid v s=>?_,k⟩,l,hf,hl⟩
 .show aW y p _ id (([AO.vec e []]:List AO).getD id .dead);rw[g];split
  next F=>subst F;exact⟨i,0,sw,sw,.inl ⟨rfl,rfl⟩⟩
  .trivial
 .exfalso;have d:zY (λid=>if id=0 then Y (.slice i 0 0)else Q2) j (([AO.vec e []]:List AO).getD j .dead) b:=o;rw[g]at d;split at d
  .exact c _ _ _ (.inl rfl) d
  .exact c _ _ _ (.inr rfl) d
 .exfalso;have d:zY (λid=>if id=0 then Y (.slice i 0 0)else Q2) id (([AO.vec e []]:List AO).getD id .dead) b:=o;rw[g]at d;split at d
  .exact c _ _ _ (.inl rfl) d
  .exact c _ _ _ (.inr rfl) d
 .simp at m;simp;omega
 .rw[P id]at s;cases s
def aX:K zM->List Item×List Item×St
 |.ok (.fork _ k h s)=>(k,h,s)
 |_=>([],[],⟨[],[]⟩)
abbrev DD:Nat->aR:=λ_=>{ }
abbrev Ja(l:List zg):K zM:=run ra 0 DD (Func.results f225).toList 300 (aK f225) (aC (Func.ntmps f225) [.sl .expr l] [])
theorem zaQ:zJ ra.P 225 f225 1:=bG kw
theorem zsS(l:List zg):Ja l=.ok (.fork l.isEmpty (aX (Ja l)).1 (aX (Ja l)).2.1 (aX (Ja l)).q):=kw
theorem zqn(l:List zg):run ra 0 DD (Func.results f225).toList 300 (aX (Ja l)).1 (aX (Ja l)).q=.ok (.ret .nils []):=kw
theorem zqo(l:List zg):run ra 0 DD (Func.results f225).toList 300 (aX (Ja l)).2.1 (aX (Ja l)).q=.chk (L (M l<=1073741824)) (.ok (.ret (.vec 0) [.vec .expr l])):=kw
def G53:ee [Y (.sl .expr)]:=λx h=>match h with
 |[]=>.chk (L (M x.1<=1073741824)) (.ok (.vec 0,[.vec .expr x.1]))
 |_=>.err
def F53:zV:=au [Y (.sl .expr)] G53
theorem zlG:FK 225 F53:=by
 refine cP zaQ λx j i a C b=>?_
 unfold G53 at a;split at a
 .simp only[Tr.val]at a;split at a
  .rename_i d;simp only[ax]at a;subst a;have⟨l,u⟩:=x;refine zB (n0:=0) iR zaQ b (zsS l) ?_;refine⟨λc=>?_,?_⟩
   .have e:l=[]:=List.isEmpty_iff.1 c;refine Reach.weaken (Q:=λr h=>(r,h)=(.vec 0,[.vec .expr []])) (Reach.promNil .expr (λid=>b id sw) (zB (n0:=0) iR zaQ b (zqn l) rfl)) ?_;intro r h g;cases g;refine⟨_,?_,λ_ _ _ _ h=>h⟩;show(AV.vec 0,[AO.vec Q6 []])=(AV.vec 0,[AO.vec Q6 l]);rw[e]
   .exact zB (n0:=0) iR zaQ b (zqo l) (eH d rfl)
  .cases a
 .simp at a
abbrev I9(l:aU):K zM:=run ra 0 DD (Func.results f223).toList 300 (aK f223) (aC (Func.ntmps f223) [.sl zu l] [])
theorem zaO:zJ ra.P 223 f223 1:=bG kw
theorem zsA(l:aU):I9 l=.ok (.fork l.isEmpty (aX (I9 l)).1 (aX (I9 l)).2.1 (aX (I9 l)).q):=kw
theorem zqk(l:aU):run ra 0 DD (Func.results f223).toList 300 (aX (I9 l)).1 (aX (I9 l)).q=.ok (.ret .nils []):=kw
theorem zql(l:aU):run ra 0 DD (Func.results f223).toList 300 (aX (I9 l)).2.1 (aX (I9 l)).q=.chk (L (M l<=1073741824)) (.ok (.ret (.vec 0) [.vec zu l])):=kw
def G32:ee [Y (.sl zu)]:=λx h=>match h with
 |[]=>.chk (L (M x.1<=1073741824)) (.ok (.vec 0,[.vec zu x.1]))
 |_=>.err
def F32:zV:=au [Y (.sl zu)] G32
theorem zlm:FK 223 F32:=by
 refine cP zaO λx j i a C b=>?_
 unfold G32 at a;split at a
 .simp only[Tr.val]at a;split at a
  .rename_i d;simp only[ax]at a;subst a;have⟨l,u⟩:=x;refine zB (n0:=0) iR zaO b (zsA l) ?_;refine⟨λc=>?_,?_⟩
   .have e:l=[]:=List.isEmpty_iff.1 c;refine Reach.weaken (Q:=λr h=>(r,h)=(.vec 0,[.vec zu []])) (Reach.promNil zu (λid=>b id sw) (zB (n0:=0) iR zaO b (zqk l) rfl)) ?_;intro r h g;cases g;refine⟨_,?_,λ_ _ _ _ h=>h⟩;show(AV.vec 0,[AO.vec zu []])=(AV.vec 0,[AO.vec zu l]);rw[e]
   .exact zB (n0:=0) iR zaO b (zql l) (eH d rfl)
  .cases a
 .simp at a
def zgP:=ra.addL [(225,F53),(223,F32)]
theorem JD:zm zgP:=iR.addL<|fc zlG<|fc zlm ip
def Tx(c:zg->Bool):zV:=ae [.expr] [.expr] (λx=>c x.1) λx=>(x.1,())
def Rw(c:zg->Bool):bS:=zgP.add 168 (Tx c)
variable {c:zg->Bool}
theorem AR(h:FK 168 (Tx c)):zm (Rw c):=JD.add h
abbrev zok:Nat->aR:=λj=>if j=3 then{slots:=[1,2,10,11]}else{ }
abbrev P8(i h:Int)(j:zD)(x a:Int)(b c:zD)(l:List (N Q6)):St:={
 tmps:=
  (tm 26 [(1,ptr 0 0),(2,ptr 1 0),(10,I i),(11,I h)]),
 heap:=
  [AO.box [X j,I x,I a,X b,X c,AV.vec 2],
   AO.box [X [],I 0,I 0,X [],X [],nils],AO.vec Q6 l]}
theorem Nh(c:zg->Bool):zJ (Rw c).P 168 f168 1:=bG kw
theorem zsB(c:zg->Bool)(o:zD)(v:V)(s:zD)(l:List zg):rn (Rw c) 0 zok f168 [zI Q6 (zg.mk o v s l)] []=
 Qd (L (M l<=1073741824)) (Tr.ok (zM.head 3 (zZ f168 3) (P8 (M l:Int) 0 o v.1 v.2.1 v.2.2 s l))):=kw
theorem Xh(c:zg->Bool)(h i:Int)(j:zD)(x a:Int)(b d:zD)(l:List (Sem Sh.expr)):rh (Rw c) 0 zok f168 3 (P8 h i j x a b d l)=
 br (L (i<h))
 (chk (zT i (Io l))
  (chk (decide (i.toNat<Io l))
   (chk (c (zP (l.getD i.toNat (zk Sh.expr))))
    (chk (zT i (Io l))
     (chk (decide (i.toNat<Io l))
      (Tr.ok
       (zM.head 3 (zZ f168 3)
        (P8 h (Γ Δ (i+1)) j x a b d
         (l.set i.toNat
          (zP (l.getD i.toNat (zk Q6))))))))))))
 (Tr.ok
  (zM.ret (agg [X j,I x,I a,X b,X d,AV.vec 0]) [AO.vec Q6 l])):=kw
theorem zrq(d:FK 168 (Tx c))(b:∀id,C.ρ0 id=Q2)(o:zD)(v:V)(s:zD)(l:List zg)(t:M l<=1073741824)(a:l.all c=Z):
  ∀(k i:Nat),M l-i=k->i<=M l->Reach (Rw c) C 168 (zZ f168 3) (P8 (M l) i o v.1 v.2.1 v.q s l) (λr h=>bc h [.expr] r=Y (zg.mk o v s l,())):=by
 intro k
 induction k with
 | zero=>
  intro i p n;obtain rfl:i=M l:=by omega
  refine zB (n0:=0) (AR d) (Nh c) (λid _=>b id) (Xh c _ _ _ _ _ _ _ _) ?_;simp only[aw,Tr.val_brF];rfl
 | succ k e=>
  intro i p n;have x:i<M l:=by omega
  refine zB (n0:=0) (AR d) (Nh c) (λid _=>b id) (Xh c _ _ _ _ _ _ _ _) ?_;have g:c l[i]=Z:=dg.1 a _ (bN x);have j:L ((i:Int).toNat<M l)=Z:=by simpa using x
  have m:l.set (i:Int).toNat l[i]=l:=by simp
  simp only[z6 x,zx x,bt l _ x,zg.eta,Tr.val_brT,Tr.val_chkT,g,j,m,zz i um];exact e (i+1) S S
def oI:Nat->zg->Bool
 |0,_=>J
 |n+1,.mk _ _ _ l=>L (M l<=1073741824)&&l.all (oI n)
theorem LJ:∀n,FK 168 (Tx (oI n))
 |0=>kz ⟨f168,(Nh (λ_=>J)).1,(Nh (λ_=>J)).2.1,(Nh (λ_=>J)).q.1⟩ (λ_=>rfl)
 | n+1=>by
  refine aH (E:=Rw (oI n)) (Nh _) λx h C a=>?_
  have⟨⟨o,v,s,l⟩,u⟩:=x;have h:(L (M l<=1073741824)&&l.all (oI n))=Z:=h;simp only[ar,aT]at h;refine zB (n0:=0) (AR (LJ n)) (Nh _) (λid _=>a id) (zsB _ o v s l) ?_;refine eH (by simpa using h.1) ?_;exact zrq (LJ n) a o v s l h.1 h.2 _ 0 rfl (zU _)
def F33:zV:=Tx (oI 16)
theorem zln:FK 168 F33:=LJ 16
def lE:=zgP.add 168 F33
theorem iS:zm lE:=JD.add zln
set_option maxHeartbeats 4000000
abbrev Lf:Sh:=.pr .str .str
abbrev pM:Sh:=.pr .str .expr
abbrev bQ:Sh:=.pr .str (.pr .str (.pr .str (.pr (.sl .str) (.pr (.sl zu) (.pr .str (.pr (.sl .str) (.pr (.sl Lf) (.pr .expr (.pr (.sl Q) (.pr (.sl pM) (.pr .expr .str)))))))))))
abbrev aG:=N bQ
def ZZ(x:aG):aG:=(x.1,x.2.1,x.2.2.1,x.2.2.2.1,x.2.2.2.2.1,x.2.2.2.2.2.1,x.2.2.2.2.2.2.1,x.2.2.2.2.2.2.2.1,zP x.2.2.2.2.2.2.2.2.1,x.2.2.2.2.2.2.2.2.2.1,x.2.2.2.2.2.2.2.2.2.2.1,zP x.2.2.2.2.2.2.2.2.2.2.2.1,x.2.2.2.2.2.2.2.2.2.2.2.2)
theorem O5(x:aG):ZZ x=x:=by unfold ZZ;rw[zt,zt]
abbrev xE(e:zg):List R:=[.str e.op,I e.v.1,I e.v.2.1,.str e.v.q,.str e.s,.sl Q6 e.l]
abbrev zE:List R:=[.str [],I 0,I 0,.str [],.str [],.nils]
abbrev aS(o t x:zD)(n h:R)(k:zD)(u a:R)(c:List R)(rw st:R)(w:List R)(b:zD):R:=.agg ([.str o,.str t,.str x,n,h,.str k,u,a]++c++[rw,st]++w++[.str b])
abbrev zdH:Nat->aR:=λj=>if j=2 then{slots:=[0,2,4]}else{ }
abbrev CG(s:TS)(i j:Int)(h:List UInt8):St:={tmps:=(tm 37 [(0,X s),(2,ptr 0 0),(4,I i)]),heap:=[AO.box [I j,X h]]}
theorem WY:zJ (lE).P 256 f256 1:=bG kw
theorem zne(x:TS):rn lE 0 zdH f256 [zI Q7 x] []=Tr.ok (zM.head 2 (zZ f256 2) (CG x 1 0 [])):=kw
theorem zaT(s:TS)(i j:Int)(h:List UInt8):rh lE 0 zdH f256 2 (CG s i j h)=let a:=Γ Δ (i+1);let x:=(M s:Int);let b:=Qg (i.toNat-T 1) (Qh (T 1) s);br (L (i<x)) (Qd (zT i (M s)) (br ((↑(W s i.toNat 0).toNat:Int)!=39) (Tr.ok (zM.head 2 (zZ f256 2) (CG s a j h))) (Qd (cond (L (Γ Δ (i+1)<x)) (zT a (M s)) Z) (br (cond (L (Γ Δ (i+1)<x)) ((↑(W s a.toNat 0).toNat:Int)==39) J) (Tr.ok (zM.head 2 (zZ f256 2) (CG s (Γ Δ (Γ Δ (i+1)+1)) j h))) (Qd (L (0<=1)&&L (1<=i)&&L (i<=x)) (Qd (t7 b oY [39]) (Tr.ok (zM.ret (tup [agg [I 3,X (Lib.replaceAll b oY [39])],I a]) [])))))))) (Tr.ok (zM.ret (tup [agg [I 0,X []],I 0]) [])):=kw
def gy:Nat->(Sem Sh.str)->Int->Int->(List UInt8)->ew×zy
 |0,_,_,_,_=>default
 |n+1,s,i,j,h=>(if L (i<(M s:Int))=Z then
 if((↑(W s i.toNat 0).toNat:Int)!=39)=Z then gy n s (Γ Δ (i+1)) j h
 else
  if
    (bif L (Γ Δ (i+1)<(M s:Int))then(↑(W s (Γ Δ (i+1)).toNat 0).toNat:Int)==39
     else J)=
     Z then
   gy n s (Γ Δ (Γ Δ (i+1)+1)) j h
  else((3,Lib.replaceAll (Qg (i.toNat-T 1) (Qh (T 1) s)) oY [39]),Γ Δ (i+1))
else((0,[]),0))
def iV:Nat->(Sem Sh.str)->Int->Int->(List UInt8)->Bool
 |0,_,_,_,_=>J
 |n+1,s,i,j,h=>(if L (i<(M s:Int))=Z then
 if zT i (Io s)=true then
  if((↑(W s i.toNat 0).toNat:Int)!=39)=Z then iV n s (Γ Δ (i+1)) j h
  else
   if (cond (decide (Γ Δ (i+1) < (Io s:Int))) (zT (Γ Δ (i+1)) (Io s)) true)=true then
    if
      (bif L (Γ Δ (i+1)<(M s:Int))then(↑(W s (Γ Δ (i+1)).toNat 0).toNat:Int)==39
       else J)=
       Z then
     iV n s (Γ Δ (Γ Δ (i+1)+1)) j h
    else
     if(L (0<=1)&&L (1<=i)&&L (i<=(M s:Int)))=Z then
      if t7 (Qg (i.toNat-T 1) (Qh (T 1) s)) oY [39]=Z then Z else J
     else J
   else J
 else J
else Z)
theorem Oy{C:eS}(c:∀id,C.ρ0 id=Q2):∀(n:Nat)(s:TS)(i:Int)(j:Int)(x:List UInt8),iV n s i j x=Z->
  Reach (lE) C 256 (zZ f256 2) (CG s i j x) (λr h=>bc h [jP,zi] r=Y ((gy n s i j x).1,(gy n s i j x).2,()))
 |0,s,i,j,x,a=>by cases a
 | n+1,s,i,j,x,a=>by
  refine zB iS (WY) (λid _=>c id) (zaT _ _ _ _) ?_;rw[iV]at a;generalize b:gy (n+1) s i j x=y;rw[gy]at b
  skip
  repeat' (first|with_reducible refine obr b a (λ_ b a=>?_) (λ_ b a=>?_)|with_reducible refine B5 b (λ_ b=>?_) (λ_ b=>?_)|with_reducible refine G2 a (λa=>?_)|with_reducible refine dP ?_)
  all_goals first|(cases a;done)|(subst b;first|(change Reach _ _ _ _ _ _;refine Oy c n _ _ _ _ ?_<;>exact a)|rfl)
def iA(x:TS):ew×zy:=(gy (M x+1) x 1 0 [])
def nN(x:TS):Bool:=(iV (M x+1) x 1 0 [])
def zjw:zV:=ae [Q7] [jP,zi] (λx=>nN x.1) λx=>((iA x.1).1,(iA x.1).2,())
theorem zev:FK 256 zjw:=by
 refine aH (WY) λx h C b=>?_
 unfold nN at h;refine zB iS (WY) (λid _=>b id) (zne x.1) ?_;generalize a:iA x.1=y;unfold iA at a
 try simp only[zg.eta,zt]
 repeat' (first|with_reducible refine obr a h (λ_ a h=>?_) (λ_ a h=>?_)|with_reducible refine B5 a (λ_ a=>?_) (λ_ a=>?_)|with_reducible refine G2 h (λh=>?_)|with_reducible refine dP ?_)
 all_goals first|(cases h;done)|(subst a;first|(change Reach _ _ _ _ _ _;refine Oy b _ _ _ _ _ ?_<;>exact h)|rfl)
abbrev znT:Nat->aR:=λ_=>{ }
theorem zdR:zJ (lE).P 382 f382 1:=bG kw
theorem znc(x:N Q6):rn lE 0 znT f382 [zI Q6 x] []=Tr.ok (zM.ret (AV.bool (cond (zg.op x==[]) (cond ((zg.v x).1==0&&((zg.v x).2.1==0&&((zg.v x).2.2==[]&&Z))) (cond (zg.s x==[]) ((↑(zg.l x).length:Int)==0) J) J) J)) []):=kw
def jI(x:N Q6):N Q8:=(cond (zg.op x==[]) (cond ((zg.v x).1==0&&((zg.v x).2.1==0&&((zg.v x).2.2==[]&&Z))) (cond (zg.s x==[]) ((↑(zg.l x).length:Int)==0) J) J) J)
def zjm:zV:=ay [Q6] [Q8] λx=>(jI x.1,())
theorem zel:FK 382 zjm:=by
 refine z7 (zdR) λx C a=>?_
 refine zB iS (zdR) (λid _=>a id) (znc x.1) ?_;generalize h:jI x.1=y;unfold jI at h
 try simp only[zg.eta,zt]
 exact SY h
abbrev ztX:Nat->aR:=λ_=>{ }
theorem zqf:zJ (lE).P 343 f343 1:=bG kw
theorem zs9(x:TS):rn lE 0 ztX f343 [zI Q7 x] []=Tr.ok (zM.ret (X x) []):=kw
def oy(x:TS):N Q7:=(x)
def F88:zV:=ay [Q7] [Q7] λx=>(oy x.1,())
theorem zl8:FK 343 F88:=by
 refine z7 (zqf) λx C a=>?_
 refine zB iS (zqf) (λid _=>a id) (zs9 x.1) ?_;generalize h:oy x.1=y;unfold oy at h
 try simp only[zg.eta,zt]
 exact SY h
abbrev ztU:Nat->aR:=λ_=>{ }
theorem zqc:zJ (lE).P 335 f335 1:=bG kw
theorem zs6(x:TS):rn lE 0 ztU f335 [zI Q7 x] []=Tr.ok (zM.ret (AV.bool (cond (fg x) (!mM x) J)) []):=kw
def du(x:TS):N Q8:=(cond (fg x) (!mM x) J)
def F80:zV:=ay [Q7] [Q8] λx=>(du x.1,())
theorem zl4:FK 335 F80:=by
 refine z7 (zqc) λx C a=>?_
 refine zB iS (zqc) (λid _=>a id) (zs6 x.1) ?_;generalize h:du x.1=y;unfold du at h
 try simp only[zg.eta,zt]
 exact SY h
abbrev zoA:Nat->aR:=λ_=>{unroll:=Z}
theorem zdU:zJ (lE).P 193 f193 1:=bG kw
theorem zng(x:ew):rn lE 0 zoA f193 [zI jP x] []=let a:=(M x.2:Int);let h:=Tr.ok (zM.ret (kb J) []);br (x.1==3) (Tr.ok (zM.ret (AV.bool (aP (2,0,x.2))) [])) (br (x.1==4) (Qd (cond (a==1) (M x.2==1) Z) (Tr.ok (zM.ret (AV.bool (cond (a==1) (L (0<=Lib.indexByte zgA (List.headD x.2 0))) J)) []))) (br Z (Qd Z (br (1==x.1) (Tr.ok (zM.ret (AV.bool (cond (L (a>=1)) (cond (L (a<=16)) ((bn bh dd x.2:Int)==a) J) J)) [])) (br Z (Qd Z (br (2==x.1) (Tr.ok (zM.ret (AV.bool (cond (L (a>=1)) (cond (L (a<=19)) ((bn aM aM x.2:Int)==a) J) J)) [])) (br J Tr.err h))) h))) h)):=kw
def e9(x:ew):N Q8:=(ite ((x.1==3)=Z) (aP (2,0,x.2)) (ite ((x.1==4)=Z) (cond ((M x.2:Int)==1) (L (0<=Lib.indexByte zgA (List.headD x.2 0))) J) (ite (Z=Z) (ite ((1==x.1)=Z) (cond (L ((M x.2:Int)>=1)) (cond (L ((M x.2:Int)<=16)) ((bn bh dd x.2:Int)==(M x.2:Int)) J) J) (ite (Z=Z) (ite ((2==x.1)=Z) (cond (L ((M x.2:Int)>=1)) (cond (L ((M x.2:Int)<=19)) ((bn aM aM x.2:Int)==(M x.2:Int)) J) J) (ite (J=Z) default J)) J)) J)))
def qH(x:ew):Bool:=(ite ((x.1==3)=Z) Z (ite ((x.1==4)=Z) (ite ((cond ((M x.2:Int)==1) (M x.2==1) Z)=Z) Z J) (ite (Z=Z) (ite (Z=Z) (ite ((1==x.1)=Z) Z (ite (Z=Z) (ite (Z=Z) (ite ((2==x.1)=Z) Z (ite (J=Z) J Z)) J) Z)) J) Z)))
def zkp:zV:=ae [jP] [Q8] (λx=>qH x.1) λx=>(e9 x.1,())
theorem zfr:FK 193 zkp:=by
 refine aH (zdU) λx h C b=>?_
 unfold qH at h;refine zB iS (zdU) (λid _=>b id) (zng x.1) ?_;generalize a:e9 x.1=y;unfold e9 at a
 skip
 exact LG a h
def kK:=lE.addL [(256,zjw),(382,zjm),(343,F88),(335,F80),(193,zkp)]
theorem gR:zm kK:=iS.addL<|fc zev<|fc zel<|fc zl8<|fc zl4<|fc zfr ip
abbrev ztV:Nat->aR:=λ_=>{ }
theorem zqd:zJ (kK).P 340 f340 1:=bG kw
theorem zs7(x:N Q6):rn kK 0 ztV f340 [zI Q6 x] []=Tr.ok (zM.ret (AV.bool (cond (jI (zP x)) Z (gY (zP x)))) []):=kw
def iO(x:N Q6):N Q8:=(cond (jI x) Z (gY x))
def F85:zV:=ay [Q6] [Q8] λx=>(iO x.1,())
theorem zl5:FK 340 F85:=by
 refine z7 (zqd) λx C a=>?_
 refine zB gR (zqd) (λid _=>a id) (zs7 x.1) ?_;generalize h:iO x.1=y;unfold iO at h
 try simp only[zg.eta]
 exact SY h
def zmJ(x:ci):N Q8:=(cond (du x.1) (cond (L (x.2.1>=1)) (L (x.2.1<=3)) J) J)
def zqz(x:N Lf):N Q8:=(cond (du x.1) (du x.2) J)
abbrev ztZ:Nat->aR:=λ_=>{ }
theorem zqg:zJ (kK).P 185 f185 1:=bG kw
theorem zta(x:zw):rn kK 0 ztZ f185 [zI Q x] []=br (!aP x) (Tr.ok (zM.ret (X []) [])) (br (x.1==1) (Qd (10==10) (Tr.ok (zM.ret (X (rm x.2.1)) []))) (br (x.1==2) (Qd (t7 x.2.2 [39] oY) (Qd (L ([39].length+(Lib.replaceAll x.2.2 [39] oY).length<=1099511627776)) (Qd (L (M ([39]++Lib.replaceAll x.2.2 [39] oY)+[39].length<=1099511627776)) (Tr.ok (zM.ret (X ([39]++Lib.replaceAll x.2.2 [39] oY++[39])) []))))) (br (x.1==3) (br (eV x==2) (Tr.ok (zM.ret (X I3) [])) (Tr.ok (zM.ret (X I2) []))) (Tr.ok (zM.ret (X L6) []))))):=kw
def fN(x:zw):N Q7:=(ite ((!aP x)=Z) [] (ite ((x.1==1)=Z) (rm x.2.1) (ite ((x.1==2)=Z) ([39]++Lib.replaceAll x.2.2 [39] oY++[39]) (ite ((x.1==3)=Z) (ite ((eV x==2)=Z) I3 I2) L6))))
def wJ(x:zw):Bool:=(ite ((!aP x)=Z) Z (ite ((x.1==1)=Z) (ite ((10==10)=Z) Z J) (ite ((x.1==2)=Z) (ite (t7 x.2.2 [39] oY=Z) (ite (L ([39].length+(Lib.replaceAll x.2.2 [39] oY).length<=1099511627776)=Z) (ite (L (M ([39]++Lib.replaceAll x.2.2 [39] oY)+[39].length<=1099511627776)=Z) Z J) J) J) Z)))
def F92:zV:=ae [Q] [Q7] (λx=>wJ x.1) λx=>(fN x.1,())
theorem zme:FK 185 F92:=by
 refine aH (zqg) λx h C b=>?_
 unfold wJ at h;refine zB gR (zqg) (λid _=>b id) (zta x.1) ?_;generalize a:fN x.1=y;unfold fN at a
 try simp only[zg.eta,zt]
 exact LG a h
abbrev ztW:Nat->aR:=λ_=>{ }
theorem zqe:zJ (kK).P 342 f342 1:=bG kw
theorem zs8(x:aG):rn kK 0 ztW f342 [zI bQ x] []=Qd (L (M x.2.1+M x.2.2.1<=1099511627776)) (Qd (L (M (x.2.1++x.2.2.1)+M x.2.2.2.2.2.1<=1099511627776)) (Qd (L (M (x.2.1++x.2.2.1++x.2.2.2.2.2.1)+M x.2.2.2.2.2.2.2.2.2.2.2.2<=1099511627776)) (Tr.ok (zM.ret (AV.bool (cond (x.2.1++x.2.2.1++x.2.2.2.2.2.1++x.2.2.2.2.2.2.2.2.2.2.2.2==[]) (cond (Γ Δ (Γ Δ (Γ Δ (Γ Δ (Γ Δ ((M x.2.2.2.1:Int)+(M x.2.2.2.2.1:Int))+(M x.2.2.2.2.2.2.1:Int))+(M x.2.2.2.2.2.2.2.1:Int))+(M x.2.2.2.2.2.2.2.2.2.1:Int))+(M x.2.2.2.2.2.2.2.2.2.2.1:Int))==0) (cond (jI (zP x.2.2.2.2.2.2.2.2.1)) (jI (zP x.2.2.2.2.2.2.2.2.2.2.2.1)) J) J) J)) [])))):=kw
def iC(x:aG):N Q8:=(cond (x.2.1++x.2.2.1++x.2.2.2.2.2.1++x.2.2.2.2.2.2.2.2.2.2.2.2==[]) (cond (Γ Δ (Γ Δ (Γ Δ (Γ Δ (Γ Δ ((M x.2.2.2.1:Int)+(M x.2.2.2.2.1:Int))+(M x.2.2.2.2.2.2.1:Int))+(M x.2.2.2.2.2.2.2.1:Int))+(M x.2.2.2.2.2.2.2.2.2.1:Int))+(M x.2.2.2.2.2.2.2.2.2.2.1:Int))==0) (cond (jI x.2.2.2.2.2.2.2.2.1) (jI x.2.2.2.2.2.2.2.2.2.2.2.1) J) J) J)
def eZ(x:aG):Bool:=(ite (L (M x.2.1+M x.2.2.1<=1099511627776)=Z) (ite (L (M (x.2.1++x.2.2.1)+M x.2.2.2.2.2.1<=1099511627776)=Z) (ite (L (M (x.2.1++x.2.2.1++x.2.2.2.2.2.1)+M x.2.2.2.2.2.2.2.2.2.2.2.2<=1099511627776)=Z) Z J) J) J)
def F87:zV:=ae [bQ] [Q8] (λx=>eZ x.1) λx=>(iC x.1,())
theorem zl7:FK 342 F87:=by
 refine aH (zqe) λx h C b=>?_
 unfold eZ at h;refine zB gR (zqe) (λid _=>b id) (zs8 x.1) ?_;generalize a:iC x.1=y;unfold iC at a
 try simp only[zg.eta]
 exact LG a h
abbrev zt2:Nat->aR:=λ_=>{unroll:=Z}
theorem zqj:zJ (kK).P 192 f192 1:=bG kw
theorem zte(x:TS):rn kK 0 zt2 f192 [zI Q7 x] []=let b:=(M x:Int);let c:=Qh (T 0) x;let d:=Qd (zT 0 (M x)) (br ((↑(W x (T 0) 0).toNat:Int)==39) (Qd (nN x) (Tr.ok (zM.ret (tup [agg [I (iA x).1.1,X (iA x).1.2],I (iA x).2]) []))) (Qd (L (0<=0)&&L (0<=1)&&L (1<=b)) (Tr.ok (zM.ret (tup [agg [I 4,X (Qg (T 1-T 0) c)],I 1]) []))));let a:=(bn bh dd x:Int);let h:=(bn aM aM x:Int);br Z (Qd Z (br (L (a>0)) (Qd (L (0<=0)&&L (0<=a)&&L (a<=b)) (Tr.ok (zM.ret (tup [agg [I 1,X (Qg (a.toNat-T 0) c)],I a]) []))) (br Z (Qd Z (br (L (h>0)) (Qd (L (0<=0)&&L (0<=h)&&L (h<=b)) (Tr.ok (zM.ret (tup [agg [I 2,X (Qg (h.toNat-T 0) c)],I h]) []))) (br J Tr.err d))) d))) d:=kw
def bY(x:TS):ew×zy:=(ite (Z=Z) (ite (L ((bn bh dd x:Int)>0)=Z) ((1,Qg ((bn bh dd x:Int).toNat-T 0) (Qh (T 0) x)),(bn bh dd x:Int)) (ite (Z=Z) (ite (L ((bn aM aM x:Int)>0)=Z) ((2,Qg ((bn aM aM x:Int).toNat-T 0) (Qh (T 0) x)),(bn aM aM x:Int)) (ite (J=Z) default (ite (((↑(W x (T 0) 0).toNat:Int)==39)=Z) ((iA x).1,(iA x).2) ((4,Qg (T 1-T 0) (Qh (T 0) x)),1)))) (ite (((↑(W x (T 0) 0).toNat:Int)==39)=Z) ((iA x).1,(iA x).2) ((4,Qg (T 1-T 0) (Qh (T 0) x)),1)))) (ite (((↑(W x (T 0) 0).toNat:Int)==39)=Z) ((iA x).1,(iA x).2) ((4,Qg (T 1-T 0) (Qh (T 0) x)),1)))
def ku(x:TS):Bool:=(ite (Z=Z) (ite (Z=Z) (ite (L ((bn bh dd x:Int)>0)=Z) (ite ((L (0<=0)&&L (0<=(bn bh dd x:Int))&&L ((bn bh dd x:Int)<=(M x:Int)))=Z) Z J) (ite (Z=Z) (ite (Z=Z) (ite (L ((bn aM aM x:Int)>0)=Z) (ite ((L (0<=0)&&L (0<=(bn aM aM x:Int))&&L ((bn aM aM x:Int)<=(M x:Int)))=Z) Z J) (ite (J=Z) J (ite (zT 0 (M x)=Z) (ite (((↑(W x (T 0) 0).toNat:Int)==39)=Z) (ite (nN x=Z) Z J) (ite ((L (0<=0)&&L (0<=1)&&L (1<=(M x:Int)))=Z) Z J)) J))) J) (ite (zT 0 (M x)=Z) (ite (((↑(W x (T 0) 0).toNat:Int)==39)=Z) (ite (nN x=Z) Z J) (ite ((L (0<=0)&&L (0<=1)&&L (1<=(M x:Int)))=Z) Z J)) J))) J) (ite (zT 0 (M x)=Z) (ite (((↑(W x (T 0) 0).toNat:Int)==39)=Z) (ite (nN x=Z) Z J) (ite ((L (0<=0)&&L (0<=1)&&L (1<=(M x:Int)))=Z) Z J)) J))
def F99:zV:=ae [Q7] [jP,zi] (λx=>ku x.1) λx=>((bY x.1).1,(bY x.1).2,())
theorem zmi:FK 192 F99:=by
 refine aH (zqj) λx h C b=>?_
 unfold ku at h;refine zB gR (zqj) (λid _=>b id) (zte x.1) ?_;generalize a:bY x.1=y;unfold bY at a
 skip
 exact LG a h
abbrev zo4:Nat->aR:=λj=>if j=3 then{slots:=[1,5,8,9,10],prom:=[(5,Q2,.str)]}else{ }
abbrev K8(x:LS)(h i:Int)(l:LS):St:={tmps:=(tm 23 [(1,AV.clo (Fn.func 343) [] []),(5,AV.vec 0),(8,O Q7 x),(9,I h),(10,I i)]),heap:=[AO.vec Q7 l]}
theorem zaS:zJ (kK).P 350 f350 2:=bG kw
theorem ztc(x:N Sh.str.sl):rn kK 0 zo4 f350 [zI Sh.str.sl x,AV.clo (Fn.func 343) [] []] []=Tr.ok (zM.head 3 (zZ f350 3) (K8 x (M x:Int) 0 [])):=kw
theorem Xl(h:LS)(x i:Int)(l:LS):rh kK 0 zo4 f350 3 (K8 h x i l)=br (L (i<x)) (Qd (zT i (M h)) (Qd (L (M l+[oy (h.getD i.toNat (zk Q7))].length<=1073741824)) (Tr.ok (zM.head 3 (zZ f350 3) (K8 h x (Γ Δ (i+1)) (l++[oy (h.getD i.toNat (zk Q7))])))))) (Qd (L (M l<=140737488355328)&&L ((Lib.join l AB).length<=140737488355328)) (Tr.ok (zM.ret (X (Lib.join l AB)) []))):=kw
def dU:List (N Q7)->Int->List (N Q7)->N Q7
 |[],_,l=>(Lib.join l AB)
 |x::r,i,l=>(dU r (i+1) (l++[oy x]))
def en:List (N Q7)->Int->List (N Q7)->Bool
 |[],_,l=>(ite ((L (M l<=140737488355328)&&L ((Lib.join l AB).length<=140737488355328))=Z) Z J)
 |x::r,i,l=>(ite (L (M l+[oy x].length<=1073741824)=Z) (en r (i+1) (l++[oy x])) J)
theorem zgr(j:∀id,C.ρ0 id=Q2)(a:LS)(o:M a<=af):∀(m i:Nat)(l:LS),M a-i=m->i<=M a->en (a.drop i) i l=Z->
  Reach (kK) C 350 (zZ f350 3) (K8 a (M a:Int) (i:Int) l) (λr h=>bc h [Q7] r=Y (dU (a.drop i) i l,())):=by
 intro m
 induction m with
 | zero=>
  intro i l n k c;obtain rfl:i=M a:=by omega
  rw[oO]at c|-;refine zB gR (zaS) (λid _=>j id) (Xl _ _ _ _) ?_;rw[en]at c;generalize d:dU [] _ l=y;rw[dU]at d;simp only[aw,Tr.val_brF];exact LG d c
 | succ m g=>
  intro i l n k c;have x:i<M a:=by omega
  have g:=g (i+1);have b:((i:Int)+1)=((i+1:Nat):Int):=by omega
  have e:=zz i S;rw[mj x]at c|-;refine zB gR (zaS) (λid _=>j id) (Xl _ _ _ _) ?_;rw[en]at c;generalize d:dU (a[i]::a.drop (i+1)) (i:Int) l=y;rw[dU]at d;simp only[z6 x,zx x,bt a _ x,e,Tr.val_brT,Tr.val_chkT];clear e
  try simp only[zx x]at d
  simp only[b]at d
  try simp only[zx x]at c
  try simp only[b]at c
  exact zqD d c g
theorem Zw(a:∀id,C.ρ0 id=Q2)(x l:LS)(b:en x 0 l=Z):
  Reach (kK) C 350 (zZ f350 3) (K8 x (M x:Int) 0 l) (λr h=>bc h [Q7] r=Y (dU x 0 l,())):=
 Reach.len 8 (Q7) x rfl λc=>zgr a x c _ 0 l rfl (zU _) b
def jq(x:N Sh.str.sl):N Q7:=(dU x 0 [])
def mT(x:N Sh.str.sl):Bool:=(en x 0 [])
def F97:zV:=Xz [Sh.str.sl] [Q7] [(343,(λx=>mT x.1),λx=>(jq x.1,()))]
theorem zmg:FK 350 F97:=by
 refine LL (zaS) λj c g b x h C a=>?_
 simp only[eh,cz]at b;obtain⟨rfl,rfl,rfl⟩:=b
 replace h:mT x.1=Z:=h
 unfold mT at h;refine zB gR (zaS) (λid _=>a id) (ztc x.1) ?_;generalize d:jq x.1=y;unfold jq at d
 skip
 exact zqD d h (Zw a)
def OQ:=kK.addL [(340,F85),(185,F92),(342,F87),(192,F99),(350,F97)]
theorem vp:zm OQ:=gR.addL<|fc zl5<|fc zme<|fc zl7<|fc zmi<|fc zmg ip
def zjo:zV:=au (List.replicate 2 Q2) (eJ OQ f384 (List.replicate 2 Q2))
theorem zen:FK 384 zjo:=bM _ vp (bG kw)
def UF(g:N Q6->N Q7)(c:N Q6->Bool):bS:=OQ.add 134 (ae [Q6] [Q7] (λx=>c x.1) λx=>(g x.1,()))
theorem Rt{g:N Q6->N Q7}{c:N Q6->Bool}(h:FK 134 (ae [Q6] [Q7] (λx=>c x.1) λx=>(g x.1,()))):zm (UF g c):=vp.add h
abbrev zhO:Nat->aR:=λ_=>{ }
theorem B7(g:N Q6->N Q7)(c:N Q6->Bool):zJ (UF g c).P 134 f134 1:=bG kw
theorem zg1(g:N Q6->N Q7)(c:N Q6->Bool)(x:N Q6):rn (UF g c) 0 zhO f134 [zI Q6 x] []=let i:=(zg.l x).getD (T 0) (zk Q6);let a:=zP i;let j:=(zg.l x).getD (T 1) (zk Q6);let h:=zP j;let e:=L ([40].length+M (g a)<=1099511627776);let d:=zT 0 (zg.l x).length;
 br (zg.op x==sJ) (Qd (wJ (zg.v x)) (Tr.ok (zM.ret (X (fN (zg.v x))) []))) (br (zg.op x==ic) (Tr.ok (zM.ret (X (zg.s x)) [])) (br (zg.op x==sK) (Qd d (Qd (c a) (Qd (L (M sI+M (g a)<=1099511627776)) (Qd (L (M (sI++g a)+[41].length<=1099511627776)) (Tr.ok (zM.ret (X (sI++g a++[41])) [])))))) (br (zg.op x==xY) (Qd d (Qd (c a) (Qd e (Qd (L (M ([40]++g a)+M xX<=1099511627776)) (Tr.ok (zM.ret (X ([40]++g a++xX)) [])))))) (Qd d (Qd (c a) (Qd e (Qd (L (M ([40]++g a)+[32].length<=1099511627776)) (Qd (L (M (zg.op x)<=140737488355328)&&List.all (zg.op x) λb=>L (b.toNat<128)) (Qd (L (M ([40]++g a++[32])+(Lib.toUpperA (zg.op x)).length<=1099511627776)) (Qd (L (M ([40]++g a++[32]++Lib.toUpperA (zg.op x))+[32].length<=1099511627776)) (Qd (zT 1 (zg.l x).length) (Qd (c h) (Qd (L (M ([40]++g a++[32]++Lib.toUpperA (zg.op x)++[32])+M (g h)<=1099511627776)) (Qd (L (M ([40]++g a++[32]++Lib.toUpperA (zg.op x)++[32]++g h)+[41].length<=1099511627776)) (Tr.ok (zM.ret (X ([40]++g a++[32]++Lib.toUpperA (zg.op x)++[32]++g h++[41])) [])))))))))))))))):=kw
def rJ(g:N Q6->N Q7)(_:N Q6->Bool)(x:N Q6):N Q7:=(ite ((zg.op x==sJ)=Z) (fN (zg.v x)) (ite ((zg.op x==ic)=Z) (zg.s x) (ite ((zg.op x==sK)=Z) (sI++g ((zg.l x).getD (T 0) (zk Q6))++[41]) (ite ((zg.op x==xY)=Z) ([40]++g ((zg.l x).getD (T 0) (zk Q6))++xX) ([40]++g ((zg.l x).getD (T 0) (zk Q6))++[32]++Lib.toUpperA (zg.op x)++[32]++g ((zg.l x).getD (T 1) (zk Q6))++[41])))))
def yx(g:N Q6->N Q7)(c:N Q6->Bool)(x:N Q6):Bool:=(if(zg.op x==sJ)=Z then if wJ (zg.v x)=Z then Z else J else if(zg.op x==ic)=Z then Z else if(zg.op x==sK)=Z then if zT 0 (zg.l x).length=Z then if c ((zg.l x).getD (T 0) (zk Q6))=Z then if L (M sI+M (g ((zg.l x).getD (T 0) (zk Q6)))<=1099511627776)=Z then if L (M (sI++g ((zg.l x).getD (T 0) (zk Q6)))+[41].length<=1099511627776)=Z then Z else J else J else J else J else if(zg.op x==xY)=Z then if zT 0 (zg.l x).length=Z then if c ((zg.l x).getD (T 0) (zk Q6))=Z then if L ([40].length+M (g ((zg.l x).getD (T 0) (zk Q6)))<=1099511627776)=Z then if L (M ([40]++g ((zg.l x).getD (T 0) (zk Q6)))+M xX<=1099511627776)=Z then Z else J else J else J else J else if zT 0 (zg.l x).length=Z then if c ((zg.l x).getD (T 0) (zk Q6))=Z then if L ([40].length+M (g ((zg.l x).getD (T 0) (zk Q6)))<=1099511627776)=Z then if L (M ([40]++g ((zg.l x).getD (T 0) (zk Q6)))+[32].length<=1099511627776)=Z then
 if(L (M (zg.op x)<=140737488355328)&&List.all (zg.op x) λb=>L (b.toNat<128))=Z then if L (M ([40]++g ((zg.l x).getD (T 0) (zk Q6))++[32])+(Lib.toUpperA (zg.op x)).length<=1099511627776)=Z then if L (M ([40]++g ((zg.l x).getD (T 0) (zk Q6))++[32]++Lib.toUpperA (zg.op x))+[32].length<=1099511627776)=Z then if zT 1 (zg.l x).length=Z then if c ((zg.l x).getD (T 1) (zk Q6))=Z then if L (M ([40]++g ((zg.l x).getD (T 0) (zk Q6))++[32]++Lib.toUpperA (zg.op x)++[32])+M (g ((zg.l x).getD (T 1) (zk Q6)))<=1099511627776)=Z then if L (M ([40]++g ((zg.l x).getD (T 0) (zk Q6))++[32]++Lib.toUpperA (zg.op x)++[32]++g ((zg.l x).getD (T 1) (zk Q6)))+[41].length<=1099511627776)=Z then Z else J else J else J else J else J else J else J else J else J else J else J)
def zjE(g:N Q6->N Q7)(c:N Q6->Bool):zV:=ae [Q6] [Q7] (λx=>yx g c x.1) λx=>(rJ g c x.1,())
theorem YY(g:N Q6->N Q7)(c:N Q6->Bool)(d:FK 134 (ae [Q6] [Q7] (λx=>c x.1) λx=>(g x.1,()))):FK 134 (zjE g c):=by
 refine aH (B7 g c) λx h C b=>?_
 unfold yx at h;refine zB (Rt d) (B7 g c) (λid _=>b id) (zg1 g c x.1) ?_;generalize a:rJ g c x.1=y;unfold rJ at a
 try simp only[zg.eta]
 exact LG a h
mutual
def aq:Nat->N Q6->N Q7
 |0=>λ_=>default
 |n+1=>rJ (aq n) (gF n)
def gF:Nat->N Q6->Bool
 |0=>λ_=>J
 |n+1=>yx (aq n) (gF n)
end
theorem Of:∀n,FK 134 (ae [Q6] [Q7] (λx=>gF n x.1) λx=>(aq n x.1,()))
 |0=>kz ⟨f134,(B7 default default).1,(B7 default default).2.1,(B7 default default).q.1⟩ (λ_=>rfl)
 |n+1=>YY (aq n) (gF n) (Of n)
def zjD:zV:=ae [Q6] [Q7] (λx=>gF 16 x.1) λx=>(aq 16 x.1,())
theorem zeC:FK 134 zjD:=Of 16
def pd:=OQ.addL [(384,zjo),(134,zjD)]
theorem kk:zm pd:=vp.addL<|fc zen<|fc zeC ip
end
end Cad
