/- Plans. -/
import Derived.Test.YtjdjldbhjmgmkaaGreatDoorK21
namespace Cad
open Go Go.Proofs
open List renaming length→Io
open IntKind renaming wrap→Γ,i64→Δ
open Tr renaming chk→Qc,«to»→Q9,val→Q8
open AV renaming nils→Qb
open Bool renaming false→Q4,true→Q3
open Option renaming none→Q2,some→Q1
open Decidable renaming decide→Q0
open Int (toNat)
open List (getD)
open Tr (chk br re)
open AV (nils agg tup ptr kb str sl)
set_option maxHeartbeats 4000000
noncomputable section
def zS(db:zP)(p:ap):zP:=(bK p.2.1 p.2.2.1).map λn=>jh (aH (bK p.2.1 p.2.2.1)) (aG db n)
variable {x:ah}
theorem Ho{l:zP}:x∈fZ l↔x∈l:=by
 match l with
 |[]=>rfl
 |[_]=>rfl
 | [a,b]=>
  rw[sk];split
  .simp[or_comm]
  .exact Iff.rfl
 |_::_::_::_=>rfl
theorem Hi(l:zP):(fZ l).length=Io l:=by
 match l with
 |[]=>rfl
 |[_]=>rfl
 |[a,b]=>rw[sk];split<;>rfl
 |_::_::_::_=>rfl
variable {db:zP}{s:zJ}
theorem B4(x:(cI db s).1=0):(cI db s).2.1=s.1/\(cI db s).2.2.1=s.2.2.1/\(cI db s).2.2.2.1=cD s:=by
 unfold cI at x|-;split at x
 next h=>rw[ze h,(iD x).2];exact⟨rfl,rfl,rfl⟩
 .rename_i h;split at x
  next a=>rw[zg h,ze a,(iD x).2];exact⟨rfl,rfl,rfl⟩
  .rename_i a;split at x
   next b=>rw[zg h,zg a,ze b,(iD x).2];exact⟨rfl,rfl,rfl⟩
   .cases x
theorem He(h:fC s=Q3)(a:s.1=gj):cD s≠[]:=by obtain⟨o,l,m,A,B,n,C,D,E,d,e,j,x⟩:=s;have a:o=gj:=a;subst a;obtain⟨_,z⟩:=eS (s:=(gj,l,m,A,B,n,C,D,E,d,e,j,x)) (g:=_) (b:=_) rfl;rw[z]at h;intro c;have c:x=[]:=c;subst c;rw[show cu []=Q4 from rfl]at h;cases q:cu l<;>cases w:cu m<;>cases y:cu n<;>simp[q,w,y]at h
theorem Jc(a:(ba db s).1=0):jQ s.1/\eF s=Q3/\ll db=(0:Int)/\(∀n∈bK s.2.2.1 (cD s),LE.le (α:=Int) 0 (ac db n))/\s.2.2.1≠cD s/\ba db s=cI db s:=by
 unfold ba at a;split at a
 case isFalse=>cases a
 rename_i b;split at a
 case isFalse h=>exact zC a h
 rename_i x;refine⟨b.1,b.2.1,b.2.2,?_,?_,by unfold ba;rw[ze b,ze x]⟩
 .unfold pb at x;split at x
  .assumption
  .cases x
 .unfold pb at x;split at x
  case isFalse=>cases x
  split at x
  case isTrue=>cases x
  rename_i c;intro e;apply c;have e:s.2.2.1=s.t.t.t:=e;rw[<-e];simp
theorem UL(C:∀x∈db,gL x)(T:(ba db s).1=0)(sh:mF s):
  ba (fZ (zS db (ba db s).2)) (jb (ba db s).2 (zS db (ba db s).2))=(0,(ba db s).2)/\(zS db (ba db s).2).map (λx:ah=>x.1.1)=bK (ba db s).2.2.1 (ba db s).2.2.2.1/\(fZ (zS db (ba db s).2)).Pairwise (λx y:ah=>Op.bytesLess x.1.1 y.1.1=Q3)/\jb (ba db s).2 (zS db (ba db s).2)=s/\(∀x∈fZ (zS db (ba db s).2),gL x)/\two (zS db (ba db s).2)=Q3:=by
 obtain⟨Y,F,hb,E,G,w⟩:=Jc T;have hB:=(je C).1 hb;have l:=jX F;have H:(cI db s).1=0:=by rw[<-w];exact T
 obtain⟨f1,f2,f3⟩:=B4 H;have I:ba db s=(0,(ba db s).2):=by rw[<-T]
 rw[w]at I|-;generalize A:bK (cI db s).2.2.1 (cI db s).2.2.2.1=a;have c:bK s.2.2.1 (cD s)=a:=by rw[<-A,f2,f3]
 rw[c]at E;have M:zS db (cI db s).2=a.map λn=>jh (aH a) (aG db n):=by unfold zS;rw[A]
 rw[M];have b:∀n∈a,(aG db n).1.1=n:=λn d=>(jv (E n d)).2
 have g:∀x∈fZ (a.map λn=>jh (aH a) (aG db n)),∃n∈a,x=jh (aH a) (aG db n):=λx P=>by
  obtain⟨n,d,rfl⟩:=aE.1 (Ho.1 P);exact⟨n,d,rfl⟩
 have o:∀n∈a,jh (aH a) (aG db n)∈fZ (a.map λn=>jh (aH a) (aG db n)):=λn d=>Ho.2 (aE.2 ⟨n,d,rfl⟩)
 have h0:Io a<=2:=by rw[<-A];unfold bK;split<;>simp
 have B:(fZ (a.map λn=>jh (aH a) (aG db n))).Pairwise λx y:ah=>Op.bytesLess x.1.1 y.1.1=Q3:=by
  by_cases J:(cD s==[])=Q3
  .have e:a=[s.2.2.1]:=by rw[<-c];unfold bK;rw[ze J]
   rw[e];simp[fZ]
  .have e:a=[s.2.2.1,cD s]:=by rw[<-c];unfold bK;rw[zg J]
   have Z:=b s.2.2.1 (by rw[e];simp);have n2:=b (cD s) (by rw[e];simp);rw[e];show(fZ [jh _ (aG db s.2.2.1),jh _ (aG db (cD s))]).Pairwise _;rw[sk];split
   next h=>simp only[List.pairwise_cons,dO,forall_eq,List.not_mem_nil,false_implies,implies_true,List.Pairwise.nil,and_true];exact h
   next h=>simp only[List.pairwise_cons,dO,forall_eq,List.not_mem_nil,false_implies,implies_true,List.Pairwise.nil,and_true];refine kg (by simpa using h) ?_;show(aG db (cD s)).1.1≠(aG db s.2.2.1).1.1;rw[Z,n2];exact λe=>G e.symm
 generalize D:fZ (a.map λn=>jh (aH a) (aG db n))=q at g o B;have j:∀n∈a,LE.le (α:=Int) 0 (ac q n):=λn d=>by
  have:=Rk (o n d)
  rwa [show(jh (aH a) (aG db n)).1.1=n from b n d]at this
 have W:jc q:=hB.src (p:=aH a) (by rw[<-D,Hi,cz];omega) B (λy hy=>by
  obtain⟨n,d,rfl⟩:=g y hy;exact⟨_,(jv (E n d)).1,rfl⟩) (λn d=>j n ((lA _ _).1 d))
 have L:∀x∈q,gL x:=λx P=>by
  obtain⟨n,d,rfl⟩:=g x P;have:=C _ (jv (E n d)).1;exact⟨this.uq,aX (List.length_filter_le _ _) this.rf,this.rw⟩
 have N:∀n∈a,an q n=Ou (aH a) (an db n):=λn d=>by
  obtain⟨U,S⟩:=jv (j n d);obtain⟨m,Y,e⟩:=g _ U;have:m=n:=by
   rw[e]at S;rw[<-b m Y];exact S
  subst this;show(aG q m).1=_;rw[e];rfl
 have z:jb (cI db s).2 (a.map λn=>jh (aH a) (aG db n))=s:=by
  refine UM H Y l sh ?_;have:∃r,a=s.2.2.1::r:=by rw[<-c];unfold bK;split<;>exact⟨_,rfl⟩
  obtain⟨r,e⟩:=this;rw[e];rfl
 have O:two (a.map λn=>jh (aH a) (aG db n))=Q3:=by
  by_cases J:(cD s==[])=Q3
  .have e:a=[s.2.2.1]:=by rw[<-c];unfold bK;rw[ze J]
   rw[e];rfl
  .have e:a=[s.2.2.1,cD s]:=by rw[<-c];unfold bK;rw[zg J]
   have Z:=b s.2.2.1 (by rw[e];simp);have n2:=b (cD s) (by rw[e];simp);rw[e];show(!((aG db s.2.2.1).1.1:zH)==(aG db (cD s)).1.1)=Q3;rw[Z,n2];simpa using G
 refine⟨?_,?_,B,z,L,O⟩
 .rw[z];refine(Zd T ((je L).2 W) (λn d=>?_) (λx P=>?_) (λho=>He l ho)).1.trans (by rw[w];exact I)
  .rw[c]at d|-;refine⟨j n d,?_⟩;rw[N n d];refine⟨rfl,rfl,λf X=>?_⟩;show f∈(an db n).t.1.filter (λf:bV=>aH a f.2)↔_;rw[List.mem_filter,(lA _ _).2 X];simp
  .rw[c];obtain⟨n,d,rfl⟩:=g x P;obtain⟨U,S⟩:=jv (E n d);exact⟨by show(aG db n).1.1∈a;rw[S];exact d,_,U,rfl⟩
 .rw[nf]
  conv=>rhs;rw[<-List.map_id a]
  exact List.map_congr_left λn d=>b n d
def cM(p:ap)(src:zP):Int:=if p.1=dj then(getD src 0 (zi zk)).1.2.2.1 else if p.1=gj then p.t.2 else getD p.t.1 0 (zi zj)
variable {p:ap}{src:zP}
theorem UU(b:0<Io src)(c:p.1≠dj->p.1≠gj->0<Io p.t.1):wE p src=Q1 (cM p src,()):=by
 have d:zK 0 (Io src)=Q3:=zz (i:=0) b;unfold cM;by_cases h:p.1=dj
 .rw[ze h];have e:(p.1==dj)=Q3:=by simp[h]
  refine zO (r:=(.int .i64 (getD src 0 (zi zk)).1.2.2.1,[])) ?_ rfl;simp only[zcT,Q8,e,d,zh];rfl
 .rw[zg h];have e:(p.1==dj)=Q4:=by simpa using h
  by_cases x:p.1=gj
  .rw[ze x];have a:(p.1==gj)=Q3:=by simp[x]
   refine zO (r:=(.int .i64 p.t.2,[])) ?_ rfl;simp only[zcT,Q8,e,a,zh,zE,zp]
  .rw[zg x];have a:(p.1==gj)=Q4:=by simpa using x
   have g:zK 0 (Io p.t.1)=Q3:=zz (i:=0) (c h x);refine zO (r:=(.int .i64 (getD p.t.1 0 (zi zj)),[])) ?_ rfl;simp only[zcT,Q8,e,a,g,zh,zE,zp];rfl
def s59(p:ap)(n i:Int):List zH->KN
 |[]=>.h7 p.2.2.2.1.2.1 n i [] [] [] [] [] 0 0 [] [] [] 0 0 [] [] [] p.1 p.2.2.2.1.1 p.2.1 [] (za.op p.2.2.2.1.t.2) (za.v p.2.2.2.1.t.2).1 (za.v p.2.2.2.1.t.2).2.1 (za.v p.2.2.2.1.t.2).2.2 (za.s p.2.2.2.1.t.2) (za.l p.2.2.2.1.t.2) [] 0 0 [] [] p.2.2.1
 |a::r=>.h7b p.2.2.2.1.2.1 n i [] [] [] [] [] 0 0 [] [] [] 0 0 [] [] [] p.1 p.2.2.2.1.1 p.2.1 [] (za.op p.2.2.2.1.t.2) (za.v p.2.2.2.1.t.2).1 (za.v p.2.2.2.1.t.2).2.1 (za.v p.2.2.2.1.t.2).2.2 (za.s p.2.2.2.1.t.2) (za.l p.2.2.2.1.t.2) [] 0 0 [] [] p.2.2.1 (a::r)
theorem zdN{i:Nat}(acc:List zH)(h:i<Io p.2.2.2.1.2.1)(x:Io acc<=1000)(b:i<=1000):(AP (s59 p (Io p.2.2.2.1.2.1:Int) (i:Int) acc)).val=Q1 (.inl (s59 p (Io p.2.2.2.1.2.1:Int) ((i+1:Nat):Int) (acc++[(getD p.2.2.2.1.2.1 i (zi zl)).1]))):=by
 cases acc with
 | nil=>
  show(AP (.h7 _ _ _ _ _ _ _ _ _ _ _ _ _ _ _ _ _ _ _ _ _ _ _ _ _ _ _ _ _ _ _ _ _ _)).val=_;simp only[AP,Q8,zL h,zz h,zh,aK];rw[ze sw,zt i um];rfl
 | cons a r=>
  show(AP (.h7b _ _ _ _ _ _ _ _ _ _ _ _ _ _ _ _ _ _ _ _ _ _ _ _ _ _ _ _ _ _ _ _ _ _ _)).val=_;simp only[AP,Q8,zL h,zz h,zh,aK];rw[ze (by simp at x|-;omega),zt i um];rfl
theorem Y7(E:0<Io src)(I:Io p.2.2.2.1.2.1<=1000):I9 p src=Q1 (jb p src,()):=by
 have b:zK 0 (Io src)=Q3:=zz (i:=0) E;by_cases x:p.1=gj
 .have e:(p.1==gj)=Q3:=by simp[x]
  unfold jb;rw[ze x,ze x];by_cases h:LE.le (α:=Int) 0 p.t.2/\LT.lt (α:=Int) p.t.2 (Io (getD src 0 (zi zk)).1.2.1)
  .rw[ze h];have z:Q0 (GE.ge (α:=Int) p.t.2 0)=Q3:=zy h.1;have A:Q0 (LT.lt (α:=Int) p.t.2 (Io (getD src 0 (zi zk)).1.2.1))=Q3:=zy h.2;have B:zK p.t.2 (Io (getD src 0 (zi zk)).1.2.1)=Q3:=by
    unfold zK;rw[aF];exact⟨zy h.1,zy (by have:=h.1;have:=h.2;omega)⟩
   have w:(zc2 p src).val=Q1 (.inr (agg [str p.1,str p.2.2.2.1.1,str p.2.1,Qb,Qb,str (getD (getD src 0 (zi zk)).1.2.1 (toNat p.t.2) (zi zl)).1,Qb,Qb,str (za.op p.2.2.2.1.t.2),ai (za.v p.2.2.2.1.t.2).1,
     ai (za.v p.2.2.2.1.t.2).2.1,str (za.v p.2.2.2.1.t.2).2.2,str (za.s p.2.2.2.1.t.2),sl Sh.expr (za.l p.2.2.2.1.t.2),Qb,Qb,str [],ai 0,ai 0,str [],str [],Qb,str p.2.2.1],[])):=by
    show(br _ (Qc _ (br _ (Qc _ (Qc _ (re _ _))) (re _ _))) (Q9 _)).val=_;have j:Q0 (p.t.2>=0)=Q3:=z;simp only[Q8,e,j,b,ax,zh];have m:Q0 (p.t.2<(↑(Io (getD src (toNat 0) (zi zk)).1.2.1):Int))=Q3:=A;have o:zK p.t.2 (Io (getD src (toNat 0) (zi zk)).1.2.1)=Q3:=B;rw[ze m,ze o];rfl
   refine zO w ?_;rw[<-zm p.2.2.2.1.t.2];rfl
  .rw[zg h]
   have w:(zc2 p src).val=Q1 (.inr (agg [str p.1,str p.2.2.2.1.1,str p.2.1,Qb,Qb,str [],Qb,Qb,str (za.op p.2.2.2.1.t.2),ai (za.v p.2.2.2.1.t.2).1,
     ai (za.v p.2.2.2.1.t.2).2.1,str (za.v p.2.2.2.1.t.2).2.2,str (za.s p.2.2.2.1.t.2),sl Sh.expr (za.l p.2.2.2.1.t.2),Qb,Qb,str [],ai 0,ai 0,str [],str [],Qb,str p.2.2.1],[])):=by
    have C:(cond (Q0 (p.t.2>=0)) (Q0 (p.t.2<(↑(Io (getD src (toNat 0) (zi zk)).1.2.1):Int))) Q4)=Q4:=by
     by_cases g:LE.le (α:=Int) 0 p.t.2
     .have y:¬LT.lt (α:=Int) p.t.2 (Io (getD src 0 (zi zk)).1.2.1):=λc=>h ⟨g,c⟩
      rw[show Q0 (p.t.2>=0)=Q3 from zy g,ax];exact ae y
     .rw[show Q0 (p.t.2>=0)=Q4 from ae g,aA]
    have D:(cond (Q0 (p.t.2>=0)) (zK 0 (Io src)) Q3)=Q3:=by rw[b];cases Q0 (p.t.2>=0)<;>rfl
    show(br _ (Qc _ (br _ (Qc _ (Qc _ (re _ _))) (re _ _))) (Q9 _)).val=_;simp only[Q8,e,zh];rw[ze D];simp only[C,zE,zp]
   refine zO w ?_;rw[<-zm p.2.2.2.1.t.2];rfl
 .have e:(p.1==gj)=Q4:=by simpa using x
  have F:(zc2 p src).val=Q1 (.inl (s59 p (Io p.2.2.2.1.2.1:Int) ((0:Nat):Int) [])):=by
   show(br _ (Qc _ (br _ (Qc _ (Qc _ (re _ _))) (re _ _))) (Q9 _)).val=_;simp only[Q8,e,zE,zp];rfl
  have q:=zN.all (t:=AP) 1 (λi=>s59 p (Io p.2.2.2.1.2.1:Int) (i:Int) ((p.2.2.2.1.2.1.take i).map λc:bX=>c.1)) (Io p.2.2.2.1.2.1) λi b=>zN.of (by
   rw[zdN _ b sg ow];congr 3;rw[bx b,eI,aZ,zZ b];rfl)
  simp only[List.take_zero,pS,gF]at q;unfold jb;rw[zg x,zg x];generalize J:(p.2.2.2.1.2.1.map λc:bX=>c.1)=n at q;have d:∃r,z6 AP 1 (s59 p (Io p.2.2.2.1.2.1:Int) (Io p.2.2.2.1.2.1:Int) n) r/\aS r.2 [ar] r.1=Q1 ((p.1,p.2.2.2.1.1,p.2.1,n,[],[],[],[],p.2.2.2.1.t.2,[],[],eu,p.2.2.1),()):=by
   cases n with
   | nil=>
    refine⟨_,z6.of (by
     show(AP (.h7 _ _ _ _ _ _ _ _ _ _ _ _ _ _ _ _ _ _ _ _ _ _ _ _ _ _ _ _ _ _ _ _ _ _)).val=_;simp only[AP,Q8,zG,zE,zp];rfl),?_⟩
    rw[<-zm p.2.2.2.1.t.2];rfl
   | cons a r=>
    refine⟨_,z6.of (by
     show(AP (.h7b _ _ _ _ _ _ _ _ _ _ _ _ _ _ _ _ _ _ _ _ _ _ _ _ _ _ _ _ _ _ _ _ _ _ _)).val=_;simp only[AP,Q8,zG,zE,zp];rfl),?_⟩
    rw[<-zm p.2.2.2.1.t.2];rfl
  obtain⟨r,G,H⟩:=d;exact zB F (q.ends G) ow H
structure Qz (p:ap) (src:zP):Prop where
 names:src.map (λx:ah=>x.1.1)=bK p.2.1 p.2.2.1
 two:two src=Q3
 plan:ba (fZ src) (jb p src)=(0,p)
 few:NY (jb p src)
 short:∀x∈fZ src,gL x
 cols:Io p.2.2.2.1.2.1<=1000
 same:I7 p p=Q3/\ML p p=Q3
theorem mz(h:two src=Q3):0<Io src/\Io src<=2:=by
 match src,h with
 |[_],_=>simp
 |[_,_],_=>simp
theorem zdv(h:Qz p src):R6 p src=Q1 (0,()):=by
 obtain⟨l,s⟩:=mz h.two;have x:(bK p.2.1 p.2.2.1).length=Io src:=by rw[<-h.names,cz]
 have q:(zqL p src).val=Q1 (.inl (.h6 src (bK p.2.1 p.2.2.1) src (Io src:Int) ((0:Nat):Int) (p,()))):=by
  have e:((Io src:Int)!=((bK p.2.1 p.2.2.1).length:Int))=Q4:=by rw[x];simp
  show(br ((Io src:Int)!=((bK p.2.1 p.2.2.1).length:Int)) _ _).val=_;rw[e];rfl
 have n:=zN.all (t:=zdV) 1 (λi=>.h6 src (bK p.2.1 p.2.2.1) src (Io src:Int) (i:Int) (p,())) (Io src) λi b=>zN.of (by
  have o:(!((getD src i (zi zk)).1.1:zH)==(bK p.2.1 p.2.2.1).getD i (zi Sh.str))=Q4:=by
   rw[<-h.names,aZ,aZ,dt,zZ b];simp
  simp only[zdV,Q8,zL b,zz b,zz (show i<(bK p.2.1 p.2.2.1).length by omega),zh,aK,o,zE,zp];rw[zt i um])
 have a:=Y7 (p:=p) l h.cols;have d:Pu p src=Q3:=by unfold Pu;rw[a];rfl
 have g:Y6 p src=jb p src:=by unfold Y6;rw[a];rfl
 have c:MK (fZ src) (jb p src)=Q1 ((ba (fZ src) (jb p src)).2,(ba (fZ src) (jb p src)).1,()):=zlL h.short (by rw[Hi];omega) h.few;rw[h.plan]at c;have j:zlK (fZ src) (jb p src)=Q3:=by unfold zlK;rw[c];rfl
 have m:pOf (fZ src) (jb p src)=(p,0):=by unfold pOf;rw[c];rfl
 refine zB q (n.ends (k:=1) (r:=(.int .i64 0,[])) (z6.of ?_)) ow rfl;simp only[zdV,Q8,zG,zm,aQ,d,g,j,m,h.two,h.same.1,h.same.2,zE,zp];simp[l,show Io src<=1000 by omega]
theorem Bd(h:Qz p src):Hq p src=Q3/\Us p src=0:=by have:=zdv h;exact⟨by unfold Hq;rw[this];rfl,by unfold Us;rw[this];rfl⟩
def s50(db:zP)(n:List zH)(j i:Int)(x:ah):zP->dp->mE
 |[],[]=>.h12 db n j i (x,())
 |[],b::r=>.h12b db n j i (x,()) (b::r)
 |a::l,[]=>.h12bb db n j i (x,()) (a::l)
 |a::l,b::r=>.h12bbb db n j i (x,()) (a::l) (b::r)
def PR(db:zP)(n:List zH)(j:Int):zP->mE
 |[]=>.h4 db n j
 |a::l=>.h4b db n j (a::l)
variable {n:List zH}{c:Int}{acc:zP}
theorem zdM{d:dp}{i:Nat}(b:i<Io x.1.t.1)(o:Io n<=1000)(j:Io d<=1000)(m:i<=1000):
  (gP (s50 db n c (i:Int) x acc d)).val=Q1 (.inl (s50 db n c ((i+1:Nat):Int) x acc (ite (aH n (getD x.1.t.1 i (zi zA)).2=Q3) (d++[getD x.1.t.1 i (zi zA)]) d))):=by
 obtain⟨e,g⟩:=JJ (l:=n) (s:=(getD x.1.t.1 i (zi zA)).2) ow;cases acc with
 | nil=>
  cases d with
  | nil=>
   show(gP (.h12 _ _ _ _ _)).val=_;simp only[gP,Q8,zL b,zz b,zh,aK,e,g];rw[zt i um];split
   .rw[ze sw];rfl
   .rfl
  | cons h r=>
   show(gP (.h12b _ _ _ _ _ _)).val=_;simp only[gP,Q8,zL b,zz b,zh,aK,e,g];rw[zt i um];split
   .rw[ze (by simp at j|-;omega)];rfl
   .rfl
 | cons a l=>
  cases d with
  | nil=>
   show(gP (.h12bb _ _ _ _ _ _)).val=_;simp only[gP,Q8,zL b,zz b,zh,aK,e,g];rw[zt i um];split
   .rw[ze sw];rfl
   .rfl
  | cons h r=>
   show(gP (.h12bbb _ _ _ _ _ _ _)).val=_;simp only[gP,Q8,zL b,zz b,zh,aK,e,g];rw[zt i um];split
   .rw[ze (by simp at j|-;omega)];rfl
   .rfl
variable {j:Nat}
theorem zdL{d:dp}(b:j<=1000)(h:Io acc<=1000):
  (gP (s50 db n (j:Int) (Io x.1.t.1:Int) x acc d)).val=Q1 (.inl (PR db n ((j+1:Nat):Int) (acc++[((x.1.1,x.1.2.1,x.1.2.2.1,x.1.2.2.2.1,d,x.1.t.2),x.2)]))):=by
 cases acc with
 | nil=>
  cases d with
  | nil=>
   show(gP (.h12 _ _ _ _ _)).val=_;simp only[gP,Q8,zG,zE,zp,zm];rw[zt j um,ze sw];rfl
  | cons c r=>
   show(gP (.h12b _ _ _ _ _ _)).val=_;simp only[gP,Q8,zG,zE,zp,zm];rw[zt j um,ze sw];rfl
 | cons a l=>
  cases d with
  | nil=>
   show(gP (.h12bb _ _ _ _ _ _)).val=_;simp only[gP,Q8,zG,zE,zp,zm];rw[zt j um,ze (by simp at h|-;omega)];rfl
  | cons c r=>
   show(gP (.h12bbb _ _ _ _ _ _ _)).val=_;simp only[gP,Q8,zG,zE,zp,zm];rw[zt j um,ze (by simp at h|-;omega)];rfl
theorem zlX(e:Io n<=1000)(d:j<=1000)(c:Io acc<=1000)(g:Io x.1.t.1<=1000):
  zN gP 1002 (s50 db n (j:Int) ((0:Nat):Int) x acc []) (PR db n ((j+1:Nat):Int) (acc++[jh (aH n) x])):=by
 have b:=zN.all (t:=gP) 1 (λi=>s50 db n (j:Int) (i:Int) x acc ((x.1.t.1.take i).filter λf:bV=>aH n f.2)) (Io x.1.t.1) λi a=>zN.of (by
  rw[zdM a e (aX (List.length_filter_le _ _) sg) ow];congr 3;rw[bx a,List.filter_append,aZ,zZ a];cases h:aH n (x.1.t.1[i]:bV).2<;>simp[h])
 simp only[List.take_zero,List.filter_nil,gF]at b;refine(b.trans (zN.of (zdL d c))).mono ow
theorem Zm(A:∀x∈db,gL x)(q:∀n∈bK p.2.1 p.2.2.1,LE.le (α:=Int) 0 (ac db n)):DU p db=Q1 (zS db p,Q3,()):=by
 have s:(zkr p db).val=Q1 (.inl (PR db (bK p.2.1 p.2.2.1) ((0:Nat):Int) [])):=by
  simp only[zkr,zm,aQ,Q8,ta,vF,zh];rfl
 have z:(bK p.2.1 p.2.2.1).length<=2:=by unfold bK;split<;>simp
 unfold zS;generalize bK p.2.1 p.2.2.1=h at s z q|-;have o:=zN.all (t:=gP) 1003 (λj=>PR db h (j:Int) ((h.take j).map λn=>jh (aH h) (aG db n))) (Io h) λj c=>by
  have d:=q h[j] (bp c);have m:Q0 (ac db h[j]<0)=Q4:=by simpa using d
  have g:=dT d;have B:=A _ (nt d);have w:zN gP 1 (PR db h (j:Int) ((h.take j).map λn=>jh (aH h) (aG db n))) (s50 db h (j:Int) ((0:Nat):Int) (aG db h[j]) ((h.take j).map λn=>jh (aH h) (aG db n)) []):=zN.of (by
   generalize((h.take j).map λn=>jh (aH h) (aG db n))=acc;cases acc with
   | nil=>
    show(gP (.h4 _ _ _)).val=_;simp only[gP,Q8,zL c,zz c,zh,z7 _ _ c,dP,m,g,zE,zp];rfl
   | cons a l=>
    show(gP (.h4b _ _ _ _)).val=_;simp only[gP,Q8,zL c,zz c,zh,z7 _ _ c,dP,m,g,zE,zp];rfl)
  have y:=(w.trans (zlX (x:=aG db h[j]) ow ow sg B.rf)).mono (b:=1003) ow;show zN gP 1003 _ (PR db h ((j+1:Nat):Int) ((h.take (j+1)).map λn=>jh (aH h) (aG db n)));rw[bx c,eI];exact y
 simp only[List.take_zero,pS,gF]at o;generalize E:(h.map λn=>jh (aH h) (aG db n))=acc at o;have e:∃r,z6 gP 1 (PR db h (Io h:Int) acc) r/\aS r.2 [zk.sl,Sh.bool] r.1=Q1 (acc,Q3,()):=by
  cases acc with
  | nil=>
   refine⟨_,z6.of (by
    show(gP (.h4 _ _ _)).val=_;simp only[gP,Q8,zG,zE,zp];rfl),rfl⟩
  | cons a l=>
   refine⟨_,z6.of (by
    show(gP (.h4b _ _ _ _)).val=_;simp only[gP,Q8,zG,zE,zp];rfl),rfl⟩
 obtain⟨r,C,D⟩:=e;exact zB s (o.ends C) ow D
def FJ(a b:zo):Bool:=a.1==b.1&&(a.2.1==b.2.1&&(a.2.2==b.2.2&&Q3))
theorem kM{a b:zo}:FJ a b=Q3↔a=b:=by obtain⟨h,x,c⟩:=a;obtain⟨d,e,g⟩:=b;unfold FJ;simp
def NT(a:Int)(v:zo)(row:zw):Bool:=bif FJ (getD row a.toNat (zi zf)) v then v.1!=0 else Q4
variable {v:zo}{row:zw}
theorem jE:NT c v row=Q3↔getD row c.toNat (zi zf)=v/\v.1≠0:=by unfold NT;rw[<-kM];cases FJ (getD row c.toNat (zi zf)) v<;>simp
theorem Mh(u:zo):∀l:zw,(tY u l).length<=Io l+1
 |[]=>by simp[tY]
 | o::r=>by
  unfold tY;split
  .have:=Mh u r;simp only[eA];omega
  .split<;>simp
theorem L7:∀(l acc:zw),(l.foldl (λacc u=>if((u:zo).1==0)=Q3 then acc else tY u acc) acc).length<=Io acc+Io l
 |[],acc=>by simp
 | u::r,acc=>by
  rw[List.foldl_cons];refine aX (L7 r _) ?_;split
  .simp
  .have:=Mh u acc;simp only[eA];omega
theorem Vy(l:zw):(pT l).length<=Io l:=by have:=L7 l [];simpa[pT]using this
def H7(p:ap):Prop:=Io p.2.2.2.1.2.1<=1000/\Io p.2.2.2.1.2.2.2.1<=1000000/\Io p.2.2.2.1.t.1<=1000000/\oe 16 p.2.2.2.1.t.2=Q3/\Io p.t.1<=1000000
theorem nS:H7 jT:=⟨aL _,aL _,aL _,rfl,aL _⟩
theorem tR(h:c=0->H7 p):H7 (iC c p).2:=by
 unfold iC;split
 .split
  .exact h (by assumption)
  .exact nS
 .exact nS
theorem Pw(db:zP)(x:NY s):H7 (ba db s).2:=by
 have b:=x.sh.names.1;unfold ba;split;rotate_left
 .exact nS
 split;rotate_left
 .exact nS
 unfold cI;split
 .refine tR λ_=>⟨?_,aL _,aL _,x.cp,?_⟩
  .show(eC _ _).length<=_;unfold eC;rw[cz];omega
  .show(jr _ _).length<=_;unfold jr;rw[cz];omega
 split
 .refine tR λh=>?_
  have a:(an db s.2.2.1).2.1.length+(ep db s.t.t.t).2.1.length<=9:=by
   unfold fV at h;split at h
   .cases h
   split at h;rotate_left
   .cases h
   split at h
   .cases h
   .omega
  have c:=lE (ep db s.t.t.t).2.2.1 (Io (ep db s.t.t.t).2.1);refine⟨?_,aL _,aL _,x.cp,?_⟩
  .show(_++fX _ _).length<=_;unfold fX;rw[gS,cz];omega
  .show(js _ _).length<=_;unfold js;rw[cz];omega
 split
 .refine tR λ_=>⟨?_,aL _,aL _,x.cp,?_⟩
  .show(xE _ _).length<=_;unfold xE;simp
  .show(jr _ _).length<=_;unfold jr;rw[cz];omega
 .exact nS
def dR(db:zP)(p:ap):ah:=getD (zS db p) 0 (zi zk)
structure aP (db:zP) (p:ap):Prop where
 go:Qz p (zS db p)
 rel:ed (dR db p)
 plc:wE p (zS db p)=Q1 (cM p (zS db p),())
 inn:∀row∈(dR db p).2,zK (cM p (zS db p)) (Io row)=Q3/\Io row=Io (dR db p).1.2.1
 fnd:∀n∈bK p.2.1 p.2.2.1,LE.le (α:=Int) 0 (ac db n)
 mig:jQ p.1
 col:LE.le (α:=Int) 0 (cM p (zS db p))/\LT.lt (α:=Int) (cM p (zS db p)) (Io (dR db p).1.2.1)
theorem Zc(z:∀x∈db,gL x)(P:(ba db s).1=0)(I:NY s):aP db (ba db s).2:=by
  obtain⟨hm,C,hb,A,h0,m⟩:=Jc P;obtain⟨Z,c2,_,c4,c5,G⟩:=UL z P I.sh;have hB:=(je z).1 hb;obtain⟨T,U,W,X,Y⟩:=Pw db I;have l:=jX C;have w:(cI db s).1=0:=by rw[<-m];exact P
  obtain⟨f1,f2,f3⟩:=B4 w;rw[m]at Z c2 c4 c5 G T U W X Y|-;have B:∀n∈bK (cI db s).2.2.1 (cI db s).2.2.2.1,LE.le (α:=Int) 0 (ac db n):=by rw[f2,f3];exact A
  have J:LE.le (α:=Int) 0 (ac db s.2.2.1):=A _ (by unfold bK;split<;>simp);have hx:dR db (cI db s).2=jh (aH (bK s.2.2.1 (cD s))) (aG db s.2.2.1):=by
    unfold dR zS;rw[f2,f3];have:∃r,bK s.2.2.1 (cD s)=s.2.2.1::r:=by unfold bK;split<;>exact⟨_,rfl⟩
    obtain⟨r,e⟩:=this;rw[e];rfl
  have y:ed (dR db (cI db s).2):=by rw[hx];exact(hB.rels _ (jv J).1).cut
  have j:(dR db (cI db s).2).1.2.1=(an db s.2.2.1).2.1:=by rw[hx];rfl
  obtain⟨m1,m2⟩:=Y5 (b:=(cI db s).2) (by omega) U W X Y;have o:∀row∈(dR db (cI db s).2).2,Io row=Io (dR db (cI db s).2).1.2.1:=λrow F=>(dl (y.fits row F)).1
  have c : (LE.le (α:=Int) 0 (cM (cI db s).2 (zS db (cI db s).2))∧LT.lt (α:=Int) (cM (cI db s).2 (zS db (cI db s).2)) (Io (dR db (cI db s).2).1.2.1))∧((cI db s).2.1≠[99,111,112,121]→(cI db s).2.1≠[106,111,105,110]→0 < Io (cI db s).2.2.2.2.2.1):=by
    unfold cM;rw[f1];rcases hm with g|g|g
    · rw[ze g]
      refine⟨?_,λh=>zC g h⟩;obtain⟨k1,_⟩:=gn y.may;exact k1
    · have D:s.1≠[99,111,112,121]:=by rw[g];decide
      rw[zg D,ze g];refine⟨?_,λ_ h=>zC g h⟩
      have e:(cI db s)=iC (fV (an db s.2.2.1) (ep db s.2.2.2.2.2.2.2.2.2.2.2.2) s.2.2.2.2.2.1 s.2.2.2.2.2.2.2.2.2.2.2.2)
          (s.1,s.2.2.1,s.2.2.2.2.2.2.2.2.2.2.2.2,(s.2.1,(an db s.2.2.1).2.1++fX (ep db s.2.2.2.2.2.2.2.2.2.2.2.2) (Io (ep db s.2.2.2.2.2.2.2.2.2.2.2.2).2.1),(an db s.2.2.1).2.2.1,[],[],s.2.2.2.2.2.2.2.2.1),
            js (ep db s.2.2.2.2.2.2.2.2.2.2.2.2).2.2.1 (Io (ep db s.2.2.2.2.2.2.2.2.2.2.2.2).2.1),zV (an db s.2.2.1) s.2.2.2.2.2.1):=by
        unfold cI;rw[zg (by simpa using D),ze (by simp[g])]
      have e0:=w;rw[e]at e0;obtain⟨q,H⟩:=iD e0;have d:¬LT.lt (α:=Int) (zV (an db s.2.2.1) s.2.2.2.2.2.1) 0:=by
        intro M;unfold fV at q;rw[ze M]at q;cases q
      have O:(cI db s).2.2.2.2.2.2=zV (an db s.2.2.1) s.2.2.2.2.2.1:=by rw[e,H]
      rw[O,j];exact⟨by omega,(ie d).2⟩
    · have D:s.1≠[99,111,112,121]:=by rw[g];decide
      have n2:s.1≠[106,111,105,110]:=by rw[g];decide
      rw[zg D,zg n2];have e:(cI db s)=iC (qf (an db s.2.2.1) s.2.2.2.1) (s.1,s.2.2.1,s.2.2.2.2.2.2.2.2.2.2.2.2,(s.2.1,xE (an db s.2.2.1) s.2.2.2.1,0,[],[],s.2.2.2.2.2.2.2.2.1),jr (an db s.2.2.1) s.2.2.2.1,0):=by
        unfold cI;rw[zg (by simpa using D),zg (by simpa using n2),ze (by simp[g])]
      have e0:=w;rw[e]at e0;obtain⟨q,H⟩:=iD e0;have S:gq (an db s.2.2.1) s.2.2.2.1=0:=by
        unfold qf at q;split at q
        · assumption
        · exact q
      have d:=qt S;have L:(cI db s).2.2.2.2.2.1=jr (an db s.2.2.1) s.2.2.2.1:=by rw[e,H]
      have h2:=jP l g;rw[L,j]
      match N:s.2.2.2.1,h2 with
      | [a,b],_=>
        rw[N]at d;have ha:=d a (by simp)
        exact ⟨⟨by have:¬ LT.lt (α:=Int) (zV (an db s.2.2.1) a) 0:=ha
                   show LE.le (α:=Int) 0 (zV (an db s.2.2.1) a);omega,(ie ha).2⟩,λ_ _=>by simp[jr]⟩
  have E:=mz G;refine⟨⟨c2,G,by rw[Z],by rw[c4];exact I,c5,T,m1,m2.2 rfl⟩,y,UU E.1 c.2,λrow F=>⟨?_,o row F⟩,B,by rw[f1];exact hm,c.1⟩;rw[o row F];unfold zK;rw[aF];have h1:=c.1.1;have h2:=c.1.2;exact⟨zy h1,zy (by omega)⟩
section
variable {db:List (Sem zk)} {p:Sem am}
theorem aP.pc(h:aP db p):mB p (zS db p)=Q3/\de p (zS db p)=cM p (zS db p):=
 ⟨by unfold mB;rw[h.plc];rfl,by unfold de;rw[h.plc];rfl⟩
theorem aP.at_mem(h:aP db p){row:zw}(a:row∈(dR db p).2):getD row (toNat (cM p (zS db p))) (zi zf)∈row:=by have x:=(h.inn row a).1;simp only[zK,aF,aR]at x;exact ve _ _ ow
theorem aP.may(h:aP db p){x:zo}(b:x∈Kx p (zS db p)):bh x=Q3:=by obtain⟨row,a,rfl⟩:=aE.1 b;rw[h.pc.2];exact(dl (h.rel.fits row a)).2.1 _ (h.at_mem a)
theorem aP.all(h:aP db p):HT p (zS db p)=Q3:=by unfold HT;simp only[aF,aR,dJ];refine⟨h.pc.1,zz (i:=0) (mz h.go.two).1,aX h.rel.few ow,λrow x=>⟨?_,h.may (aE.2 ⟨row,x,rfl⟩)⟩⟩;rw[h.pc.2];exact(h.inn row x).1
theorem aP.len(h:aP db p){row:zw}(x:row∈(dR db p).2):Io row<=8:=by rw[(h.inn row x).2];exact(gn h.rel.may).2.2.2.1
theorem aP.few(_:aP db p):(cj p (zS db p)).length<=(dR db p).2.length:=by have:=Vy (Kx p (zS db p));have e:(Kx p (zS db p)).length=(dR db p).2.length:=cz _;rw[e]at this;exact this
theorem aP.keys(h:aP db p)(b:p.1=dj):(Kx p (zS db p)).Nodup/\∀x∈Kx p (zS db p),x.1≠0:=by
 have d:de p (zS db p)=(dR db p).1.2.2.1:=by
  rw[h.pc.2];unfold cM;rw[ze b];rfl
 have e:Kx p (zS db p)=(dR db p).2.map (zX (dR db p).1.2.2.1):=by
  unfold Kx;rw[d];rfl
 rw[e];refine⟨RB h.rel.pw,λx j=>?_⟩;obtain⟨row,a,rfl⟩:=aE.1 j;have g:=(lR _).1 h.rel.may;have c:=h.rel.keys row a;simp only[zK,aF,aR]at c;exact(dl (h.rel.fits row a)).2.2 _ ow g.nn
theorem aP.is(h:aP db p)(v:zo):v∈cj p (zS db p)↔(dR db p).2.filter (NT (cM p (zS db p)) v)≠[]:=by
 unfold cj;rw[(qZ λx j=>h.may j).2];show _↔¬(dR db p).2.filter (NT (cM p (zS db p)) v)=[];rw[List.filter_eq_nil_iff];constructor
 .rintro⟨j,b⟩ d;obtain⟨row,a,e⟩:=aE.1 j;rw[h.pc.2]at e;exact d row a (jE.2 ⟨e,b⟩)
 .intro d;have:∃row∈(dR db p).2,NT (cM p (zS db p)) v row=Q3:=by
   refine tq λg=>d λrow a c=>g ⟨row,a,c⟩
  obtain⟨row,a,c⟩:=this;obtain⟨e,b⟩:=jE.1 c;refine⟨aE.2 ⟨row,a,?_⟩,b⟩;show getD row (toNat (de p (zS db p))) (zi zf)=v;rw[h.pc.2];exact e
end
def RgV(v:zo):Prop:=LE.le (α:=Int) (-9223372036854775808) v.2.1/\LE.le (α:=Int) v.2.1 9223372036854775807
mutual
def UZ:za->Prop
 |.mk _ v _ l=>RgV v/\H6 l
def H6:List za->Prop
 |[]=>True
 |e::r=>UZ e/\H6 r
end
theorem H6.mem:∀{l:List za},H6 l->∀e∈l,UZ e
 |[],_,e,h=>by simp at h
 | x::r,h,e,a=>by
  rw[H6]at h;rcases cf.1 a with rfl|a
  .exact h.1
  .exact H6.mem h.2 e a
theorem kB.app:∀{a b:List za},kB a->kB b->kB (a++b)
 |[],_,_,h=>h
 | x::r,b,h,hb=>by
  rw[kB]at h;rw[List.cons_append,kB];exact⟨h.1,h.2.app hb⟩
theorem NM(k:Nat)(s:zH)(h:k<=1000):(List.take (toNat (k:Int)-toNat 0) (List.drop (toNat 0) s)).length<=1000000:=by simp;omega
theorem YA{n k:Nat}(h:¬Q0 ((n:Int)>(k:Int))=Q3)(x:k<=1000):n<=1000000:=by
 have:¬(n:Int)>(k:Int):=by simpa using h
 omega
theorem kB.of:∀{l:List za},(∀x∈l,tp x)->kB l
 |[],_=>by rw[kB];trivial
 |x::r,h=>by rw[kB];exact⟨h x sw,kB.of λy a=>h y (by simp[a])⟩
theorem A1{e:za}(h:UZ e):tp (ia e):=by
 obtain⟨r,m,c,d⟩:=IM (P:=λ_ e r=>UZ e->tp r) (λN e o t s l g _ w q a=>by
  obtain⟨A,v,B,z⟩:=e;rw[UZ]at a;rw[tp];exact⟨⟨a.1.1,a.1.2,by show Io t<=_;omega⟩,ow,kB.of λy n=>by
   obtain⟨x,j,b⟩:=g y n;exact b (a.2.mem x j)⟩) 16 e 14 80 ow ow ow
 unfold ia;rw[za.eta,show sD 16 e 14 80=(r,m) by unfold sD;rw[c];rfl];exact d h
theorem EK(s:zH):(jy s).length<=1000000:=by
 unfold jy;split
 .exact NM 20 s ow
 .exact YA (k:=20) (by assumption) ow
theorem Ye(l:aM):(jR l).length<=9/\∀c∈jR l,Io c.1<=1000000:=by refine⟨by show((List.take 9 l).map _).length<=9;rw[cz,pQ];omega,λc h=>?_⟩;obtain⟨x,_,rfl⟩:=aE.1 h;exact EK x.1
variable {t:aq}
theorem zd2(h:UZ t.t.2):H8 (E6 t):=by
 have x:=Ye t.2.1;refine⟨EK _,x.2,aX x.1 ow,?_,?_,λf a=>?_,A1 h⟩
 .show(List.take 10 _).length<=_;rw[pQ];omega
 .show((List.take 10 _).map _).length<=_;rw[cz,pQ];omega
 .obtain⟨g,_,rfl⟩:=aE.1 a;exact EK _
theorem zd6(h:RgV v):lj (FM v):=by
 unfold FM;split
 .exact⟨h.1,h.2,NM 60 v.2.2 ow⟩
 .exact⟨h.1,h.2,YA (k:=60) (by assumption) ow⟩
variable {a:zw}
theorem Ms(h:∀v∈a,RgV v):∀v∈mq a,lj v:=λv b=>by
 obtain⟨x,c,rfl⟩:=aE.1 b;exact zd6 (h x (List.mem_of_mem_take c))
structure RgR (x:ah):Prop where
 chk:UZ x.1.t.2
 vals:∀r∈x.2,∀v∈(r:zw),RgV v
theorem Yc(h:RgR x):KB (Ap x):=by
 obtain⟨rows,b,c⟩:=Mr x;have d:Ap x=(E6 x.1,rows):=by unfold Ap;rw[c];rfl
 rw[d];refine⟨zd2 h.chk,by show Io rows<=1000;have:=b.1;omega,λr e v g=>?_⟩;obtain⟨j,a,rfl⟩:=b.2 r e;exact Ms (h.vals j a) v g
structure RgS (s:zJ):Prop where
 chk:UZ s.t.t.1
 whr:UZ s.t.t.q.2.1
 row:∀v∈s.t.t.2.1,RgV v
 sets:∀x∈s.t.t.q.1,UZ (x:Sem io).2
theorem Yb(h:RgS s):∃b:zJ,xM s=Q1 (b,())/\NY b/\wK b:=by
 obtain⟨b,d,c,a⟩:=Pg s;refine⟨b,d,c,c.sh,?_,?_,c.cp,?_,?_,?_⟩
 .rw[a.chk];exact A1 h.chk
 .rw[a.whr];exact A1 h.whr
 .rw[a.whr];exact Iq _
 .rw[a.row];exact Ms h.row
 .intro x g;obtain⟨y,j,e⟩:=a.sets x g;rw[e];exact⟨A1 (h.sets y j),Iq _⟩
theorem Z7{o:Bool}(h:DU p db=Q1 (src,o,())):A7 p db=Q1 (p,src,o,()):=by
 have c:Py p db=Q3:=by unfold Py;rw[h];rfl
 have x:Zl p db=(src,o):=by unfold Zl;rw[h];rfl
 have e:p=(p.1,p.2.1,p.2.2.1,(p.2.2.2.1.1,p.2.2.2.1.2.1,p.2.2.2.1.2.2.1,p.2.2.2.1.2.2.2.1,p.2.2.2.1.t.1,zr p.2.2.2.1.t.2),p.t):=by rw[zm]
 refine(zO (i:=zkm p db) (t:=t0) (n:=100000000) (outs:=[am,zk.sl,Sh.bool]) (by
  simp only[zkm,zm,aQ,Q8,c,x,zh];rfl) (y:=((p.1,p.2.1,p.2.2.1,(p.2.2.2.1.1,p.2.2.2.1.2.1,p.2.2.2.1.2.2.1,p.2.2.2.1.2.2.2.1,p.2.2.2.1.t.1,zr p.2.2.2.1.t.2),p.t),src,o,())) rfl).trans ?_
 rw[<-e]
theorem aP.uall(h:aP db p):Kw p (zS db p)=Q1 (cj p (zS db p),0,()):=by obtain⟨c,x⟩:=Bd h.go;refine zO (r:=(tup [sl zf (cj p (zS db p)),ai 0],[])) ?_ rfl;simp only[zqy,zm,aQ,Q8,c,x,h.all,iz,zE,zh,zp]
theorem zd8(v:zo)(q:Io a<=1000000):zae a v=Q1 (ab (FJ v) a 0,()):=by
 have j:(zqU a v).val=Q1 (.inl (.h2 a (Io a:Int) ((0:Nat):Int) (v,()))):=rfl
 have b:∀k,k<=Io a->(∀x∈a.take k,FJ v x=Q4)->zN UQ (k*1) (.h2 a (Io a:Int) ((0:Nat):Int) (v,())) (.h2 a (Io a:Int) (k:Int) (v,())):=λk e m=>
  zN.all (t:=UQ) 1 (λi=>.h2 a (Io a:Int) (i:Int) (v,())) k λi o=>zN.of (by
   have h:i<Io a:=by omega
   have c:FJ v a[i]=Q4:=m _ (List.mem_take_iff_getElem.2 ⟨i,ow,rfl⟩);unfold FJ at c;simp only[UQ,Q8,zL h,zz h,zh,z7 _ _ h,c,zE,zp];rw[zt i um])
 rcases eY (FJ v) a 0 with⟨g,d⟩|⟨k,e,g,d,l⟩
 .rw[g];refine zB j ((b (Io a) (aj _) (λx n=>d x (List.mem_of_mem_take n))).ends (z6.of (r:=(.int .i64 (-1),[])) ?_)) ow rfl;simp only[UQ,Q8,zG,zE,zp]
 .rw[g];refine zB j ((b k ow l).ends (z6.of (r:=(.int .i64 (k:Int),[])) ?_)) ow (by rw[er];rfl);unfold FJ at d;simp only[UQ,Q8,zL e,zz e,zh,z7 _ _ e,d]
theorem zd7{l:zw}(v:zo)(b:Io l<=1000000):NO l v=Q3/\Ky l v=l.any (FJ v):=by
 have h:=zd8 v b;have c:zad l v=Q3:=by unfold zad;rw[h];rfl
 have x:zl9 l v=ab (FJ v) l 0:=by unfold zl9;rw[h];rfl
 have a:Q0 (GE.ge (α:=Int) (ab (FJ v) l 0) 0)=l.any (FJ v):=by rw[gU,xI,List.any_eq_true]
 have:zac l v=Q1 (l.any (FJ v),()):=by
  refine zO (r:=(.bool (l.any (FJ v)),[])) ?_ rfl;simp only[zqN,Q8,c,x,zh];rw[a]
 exact⟨by unfold NO;rw[this];rfl,by unfold Ky;rw[this];rfl⟩
theorem Nk(v:zo)(h:dX x.1=Q3):JN x v=Q3/\Sq x v=ab (λr=>bC r x.1.2.2.1 v) x.2 0:=by
 have:JO x v=Q1 (ab (λr=>bC r x.1.2.2.1 v) x.2 0,()):=by
  refine zO (r:=(.int .i64 (ab (λr=>bC r x.1.2.2.1 v) x.2 0),[])) ?_ rfl;simp only[zqM,zm,aQ,Q8,h,ci,zE,zp]
 exact⟨by unfold JN;rw[this];rfl,by unfold Sq;rw[this];rfl⟩
theorem Hc(h:zK c (Io row)=Q3):bC row c v=Q3↔zX c row=v:=by simp only[zK,aF,aR]at h;unfold bC;rw[zy (show GE.ge (α:=Int) c 0 from h.1),zy (show LT.lt (α:=Int) c (Io row:Int)from h.2),ax,ax];exact kM
theorem ed.find(h:ed x)(g:row∈x.2):
  ∃(k:Nat)(b:k<Io x.2),ab (λr=>bC r x.1.2.2.1 (zX x.1.2.2.1 row)) x.2 0=(k:Int)/\x.2[k]=row:=by
 rcases eY (λr=>bC r x.1.2.2.1 (zX x.1.2.2.1 row)) x.2 0 with⟨_,d⟩|⟨k,b,n,d,_⟩
 .have:=d row g;rw[(Hc (h.keys row g)).2 rfl]at this;cases this
 .refine⟨k,b,by rw[n,er],?_⟩;have e:=(Hc (h.keys _ (bp b))).1 d;obtain⟨j,l,rfl⟩:=gD g;by_cases c:k=j
  .subst c;rfl
  .have m:=List.pairwise_iff_getElem.1 (List.pairwise_map.1 (RB h.pw));rcases Nat.lt_or_gt_of_ne c with a|a
   .exact zC e (m k j b l a)
   .exact zC e.symm (m j k l b a)
section
variable {db:List (Sem zk)} {p:Sem am}
theorem aP.has(h:aP db p){row:zw}(b:row∈(dR db p).2)(x:(zX (cM p (zS db p)) row).1≠0):zX (cM p (zS db p)) row∈cj p (zS db p):=by
 refine(h.is _).2 λa=>?_
 have:=List.filter_eq_nil_iff.1 a row b;exact this (jE.2 ⟨rfl,x⟩)
theorem aP.hasC(h:aP db p)(v:zo):NO (cj p (zS db p)) v=Q3/\(Ky (cj p (zS db p)) v=Q3↔v∈cj p (zS db p)):=by
 have g:=h.few;have j:=h.rel.few;obtain⟨a,b⟩:=zd7 (l:=cj p (zS db p)) v ow;refine⟨a,?_⟩;rw[b,List.any_eq_true];constructor
 .rintro⟨x,d,e⟩;rw[kM.1 e];exact d
 .intro c;exact⟨v,c,kM.2 rfl⟩
def T7(db:zP)(p:ap)(v:zo):zo×Int:=
 if p.1=gj then
  let a:=ab (λr=>bC r (dR db p).1.2.2.1 v) (dR db p).2 0
  if LT.lt (α:=Int) a 0 then((0,0,[]),6)else
   let u:=zX p.t.2 (getD (dR db p).2 a.toNat (zi zf.sl))
   if Ky (cj p (zS db p)) u=Q3 then(u,0)else((0,0,[]),6)
 else if Ky (cj p (zS db p)) v=Q3 then(v,0)else((0,0,[]),6)
theorem aP.key(h:aP db p)(v:zo):ztv p (zS db p) v=Q1 ((T7 db p v).1,(T7 db p v).2,()):=by
 obtain⟨n,o⟩:=Bd h.go;have b:zK 0 (zS db p).length=Q3:=zz (i:=0) (mz h.go.two).1;have d:getD (zS db p) (toNat 0) (zi zk)=dR db p:=rfl;obtain⟨y,w⟩:=Nk (x:=dR db p) v h.rel.may;by_cases m:p.1=gj
 .have l:(p.1==gj)=Q3:=by simpa using m
  have z:cM p (zS db p)=p.t.2:=by
   unfold cM;rw[zg (by rw[m];decide),ze m]
  unfold T7;rw[ze m];by_cases s:LT.lt (α:=Int) (ab (λr=>bC r (dR db p).1.2.2.1 v) (dR db p).2 0) 0
  .simp only[ze s];refine zO (r:=(tup [agg [ai 0,ai 0,str []],ai 6],[])) ?_ rfl;simp only[T4,zm,aQ,Q8,n,o,l,b,d,y,w,iz,zE,zh,zp];rw[ze (zy s)]
  .simp only[zg s];rcases gm (λr=>bC r (dR db p).1.2.2.1 v) (dR db p).2 0 with e|⟨B,C⟩
   .rw[e]at s;omega
   .obtain⟨k,E⟩:∃k:Nat,ab (λr=>bC r (dR db p).1.2.2.1 v) (dR db p).2 0=(k:Int):=⟨_,(Int.toNat_of_nonneg B).symm⟩;rw[E]at s C w|-;have a:k<(dR db p).2.length:=by omega
    have g:=(h.inn _ (bp a)).1;rw[z]at g;obtain⟨q,D⟩:=h.hasC (zX p.t.2 (dR db p).2[k]);have A:Q0 ((k:Int)<0)=Q4:=by simp
    rw[z7 _ _ a];by_cases c:Ky (cj p (zS db p)) (zX p.t.2 (dR db p).2[k])=Q3
    .rw[ze c];refine zO (r:=(tup [agg [ai (zX p.t.2 (dR db p).2[k]).1,ai (zX p.t.2 (dR db p).2[k]).2.1,str (zX p.t.2 (dR db p).2[k]).2.2],ai 0],[])) ?_ rfl;simp only[T4,zm,aQ,Q8,n,o,l,b,d,y,w,A,zz a,z7 _ _ a,g,h.all,q,c,iz,ci,zE,zh,zp]
    .rw[zg c];have j:=Bool.eq_false_iff.2 c;refine zO (r:=(tup [agg [ai 0,ai 0,str []],ai 6],[])) ?_ rfl;simp only[T4,zm,aQ,Q8,n,o,l,b,d,y,w,A,zz a,z7 _ _ a,g,h.all,q,j,iz,da,zE,zh,zp]
 .have l:(p.1==gj)=Q4:=by simpa using m
  unfold T7;rw[zg m];obtain⟨q,D⟩:=h.hasC v;by_cases c:Ky (cj p (zS db p)) v=Q3
  .rw[ze c];refine zO (r:=(tup [agg [ai v.1,ai v.2.1,str v.2.2],ai 0],[])) ?_ rfl;simp only[T4,zm,aQ,Q8,n,o,l,h.all,q,c,iz,ci,zE,zh,zp]
  .rw[zg c];have j:=Bool.eq_false_iff.2 c;refine zO (r:=(tup [agg [ai 0,ai 0,str []],ai 6],[])) ?_ rfl;simp only[T4,zm,aQ,Q8,n,o,l,h.all,q,j,iz,da,zE,zh,zp]
theorem aP.mine(h:aP db p)(m:p.1≠lm){row:zw}(c:row∈(dR db p).2)(j:(zX (cM p (zS db p)) row).1≠0):
  T7 db p (zX (dR db p).1.2.2.1 row)=(zX (cM p (zS db p)) row,0):=by
 have b:=h.has c j;unfold T7;by_cases a:p.1=gj
 .have x:cM p (zS db p)=p.t.2:=by
   unfold cM;rw[zg (by rw[a];decide),ze a]
  rw[ze a];obtain⟨k,n,d,g⟩:=h.rel.find c;simp only[d];rw[zg ow,z7 _ _ n,g,<-x,ze ((h.hasC _).2.2 b)]
 .rw[zg a];have l:p.1=dj:=by
   rcases h.mig with e|e|e
   .exact e
   .exact zC e a
   .exact zC e m
  have x:cM p (zS db p)=(dR db p).1.2.2.1:=by
   unfold cM;rw[ze l];rfl
  rw[x]at b|-;rw[ze ((h.hasC _).2.2 b)]
end
section
variable {α:Type} (k:α->Sem zf)
variable {k}
end
def zps(k:Int)(r:zw):Prop:=zK k (Io r)=Q3/\lj (zX k r)/\bh (zX k r)=Q3
section
variable {t:Sem ak} {rows acc:List (List (Sem zf))} {i:Nat} {z1:zn uO}
end
structure tn (db:zP) (p:ap):Prop where
 wf:H8 p.2.2.2.1
 fr:KB (dR db p)
 few:Io p.t.1<=1000
 copy:p.1=dj->(∀c∈p.t.1,zK c (dR db p).1.2.1.length=Q3)/\∃(k:Nat)(h:k<Io p.t.1),p.2.2.2.1.2.2.1=(k:Int)/\p.t.1[k]=(dR db p).1.2.2.1
 join:p.1=gj->p.2.2.2.1.2.2.1=(dR db p).1.2.2.1/\∃y:ah,zS db p=[dR db p,y]/\ed y/\KB y/\(∀c∈p.t.1,zK c (Io y.1.2.1)=Q3)/\∀row∈(dR db p).2,(zX p.t.2 row).1≠0->fY y y.1.2.2.1 (zX p.t.2 row)=Q3
 group:p.1=lm->p.2.2.2.1.2.2.1=0/\∃a b,p.t.1=[a,b]/\zK a (dR db p).1.2.1.length=Q3/\zK b (dR db p).1.2.1.length=Q3
theorem KB.cut{q:zH->Bool}(h:KB x):KB (jh q x):=
 ⟨⟨h.t.name,h.t.cols,h.t.ncols,h.t.nuq,aX (List.length_filter_le _ _) h.t.nrf,λf a=>h.t.refs f (List.mem_filter.1 a).1,h.t.chk⟩,h.rows,h.vals⟩
theorem DQ{a:zH}(h:¬LT.lt (α:=Int) (zV t a) 0):zK (zV t a) (Io t.2.1)=Q3:=oG ⟨ow,(ie h).2⟩
theorem QQ(h:H8 t)(n:List zH):∀c∈eC t n,Io (c:bX).1<=1000000:=by
 intro c a;obtain⟨s,_,rfl⟩:=aE.1 a;by_cases x:toNat (zV t s)<Io t.2.1
 .rw[aZ,zZ x];exact h.cols _ (bp x)
 .rw[aZ,eX ow];exact aL _
theorem Y2{k:Int}{n:Nat}(h:j∈DL k n):j<n:=by unfold DL at h;simpa using(List.mem_filter.1 h).1
theorem zk1(E:∀x∈db,KB x)(hp:(ba db s).1=0)(A:wK s):tn db (ba db s).2:=by
 obtain⟨hm,L,hb,I,h0,y⟩:=Jc hp;have hB:=(je λx B=>(E x B).short).1 hb;have o:=jX L;have w:(cI db s).1=0:=by rw[<-y];exact hp
 obtain⟨G,Y,Z⟩:=B4 w;rw[y];have J:LE.le (α:=Int) 0 (ac db s.2.2.1):=I _ (by unfold bK;split<;>simp);have B:dR db (cI db s).2=jh (aH (bK s.2.2.1 (cD s))) (aG db s.2.2.1):=by
  unfold dR zS;rw[Y,Z];have:∃r,bK s.2.2.1 (cD s)=s.2.2.1::r:=by unfold bK;split<;>exact⟨_,rfl⟩
  obtain⟨r,e⟩:=this;rw[e];rfl
 have hF:=E _ (jv J).1;have C:KB (dR db (cI db s).2):=by rw[B];exact hF.cut
 have D:H8 (an db s.2.2.1):=hF.t;rcases hm with m|m|m
 .have e:cI db s=iC (tA (an db s.2.2.1) s.2.2.2.1) (s.1,s.2.2.1,s.2.2.2.2.2.2.2.2.2.2.2.2,(s.2.1,eC (an db s.2.2.1) s.2.2.2.1,gV (jr (an db s.2.2.1) s.2.2.2.1) (an db s.2.2.1).2.2.1,[],[],s.2.2.2.2.2.2.2.2.1),jr (an db s.2.2.1) s.2.2.2.1,0):=by
   unfold cI;rw[ze (by simp[m])]
  have e0:=w;rw[e]at e0;obtain⟨g,n⟩:=iD e0;unfold tA at g;split at g;rotate_left
  next h=>exact zC g h
  rename_i F;split at g
  .cases g
  rename_i hk;have l:=qt F;refine⟨?_,C,(by rw[e,n];show(jr _ _).length<=_;unfold jr;rw[cz];have:=A.sh.names.1;omega),?_,(by rw[G,m];intro h;cases h),(by rw[G,m];intro h;cases h)⟩
  .rw[e,n];exact⟨aX A.sh.table (by omega),QQ D _,by show(eC _ _).length<=_;unfold eC;rw[cz];have:=A.sh.names.1;omega,aL _,aL _,λf H=>(by cases H),A.chk⟩
  .intro _;rw[B,e,n];refine⟨λc d=>?_,?_⟩
   .obtain⟨a,ha,rfl⟩:=aE.1 d;exact DQ (l a ha)
   .rcases Mk (jr (an db s.2.2.1) s.2.2.2.1) (an db s.2.2.1).2.2.1 with⟨j,z,X,q2,_⟩|⟨X,_⟩
    .exact⟨j,z,X,q2⟩
    .exact zC (by rw[X];decide) hk
 .have e:cI db s=iC (fV (an db s.2.2.1) (ep db s.2.2.2.2.2.2.2.2.2.2.2.2) s.2.2.2.2.2.1 s.2.2.2.2.2.2.2.2.2.2.2.2)
     (s.1,s.2.2.1,s.2.2.2.2.2.2.2.2.2.2.2.2,(s.2.1,(an db s.2.2.1).2.1++fX (ep db s.2.2.2.2.2.2.2.2.2.2.2.2) (Io (ep db s.2.2.2.2.2.2.2.2.2.2.2.2).2.1),(an db s.2.2.1).2.2.1,[],[],s.2.2.2.2.2.2.2.2.1),
      js (ep db s.2.2.2.2.2.2.2.2.2.2.2.2).2.2.1 (Io (ep db s.2.2.2.2.2.2.2.2.2.2.2.2).2.1),zV (an db s.2.2.1) s.2.2.2.2.2.1):=by
   unfold cI;rw[zg (by simp[m]),ze (by simp[m])]
  have e0:=w;rw[e]at e0;obtain⟨g,n⟩:=iD e0;have hr:=He o m;have M:bK s.2.2.1 (cD s)=[s.2.2.1,cD s]:=by unfold bK;rw[zg (by simpa using hr)]
  have N:LE.le (α:=Int) 0 (ac db (cD s)):=I _ (by rw[M];simp);have W:ep db s.2.2.2.2.2.2.2.2.2.2.2.2=(aG db (cD s)).1:=by
   unfold ep;rw[zg hr];rfl
  have O:=E _ (jv N).1;rw[W]at e g n;refine⟨?_,C,(by rw[e,n];show(js _ _).length<=_;unfold js;rw[cz];exact aX (lE _ _) O.t.ncols),(by rw[G,m];intro h;cases h),?_,(by rw[G,m];intro h;cases h)⟩
  .rw[e,n];refine⟨aX A.sh.table (by omega),λc d=>?_,?_,aL _,aL _,λf H=>(by cases H),A.chk⟩
   .rcases bZ.1 d with d|d
    .exact D.cols c d
    .obtain⟨j,z,rfl⟩:=aE.1 d;have z:=Y2 z;rw[aZ,zZ z];exact O.t.cols _ (bp z)
   .show(_++fX _ _).length<=1000;unfold fV at g;split at g
    .cases g
    split at g;rotate_left
    .cases g
    split at g
    .cases g
    rename_i h9;have:=lE (aG db (cD s)).1.2.2.1 (aG db (cD s)).1.2.1.length;unfold fX;rw[gS,cz];omega
  .intro _;have hs:zS db (cI db s).2=[dR db (cI db s).2,jh (aH (bK s.2.2.1 (cD s))) (aG db (cD s))]:=by
    rw[B];unfold zS;rw[Y,Z,M];rfl
   refine⟨?_,jh (aH (bK s.2.2.1 (cD s))) (aG db (cD s)),hs,(hB.rels _ (jv N).1).cut,O.cut,?_,?_⟩
   .rw[B,e,n];rfl
   .rw[e,n];intro c d;obtain⟨j,z,rfl⟩:=aE.1 d;exact zz (Y2 z)
   .have U:(cI db s).2.2.2.2.2.2=zV (an db s.2.2.1) s.2.2.2.2.2.1:=by rw[e,n]
    have S:jp (an db s.2.2.1).2.2.2.2.1 (zV (an db s.2.2.1) s.2.2.2.2.2.1,cD s)=Q3:=by
     unfold fV at g;split at g
     .cases g
     split at g
     .assumption
     .cases g
    rw[B,U];exact(hB.bound _ (jv J).1 _ ((oD _ _).1 S)).2
 .have e:cI db s=iC (qf (an db s.2.2.1) s.2.2.2.1) (s.1,s.2.2.1,s.2.2.2.2.2.2.2.2.2.2.2.2,(s.2.1,xE (an db s.2.2.1) s.2.2.2.1,0,[],[],s.2.2.2.2.2.2.2.2.1),jr (an db s.2.2.1) s.2.2.2.1,0):=by
   unfold cI;rw[zg (by simp[m]),zg (by simp[m]),ze (by simp[m])]
  have e0:=w;rw[e]at e0;obtain⟨g,n⟩:=iD e0;have F:gq (an db s.2.2.1) s.2.2.2.1=0:=by
   unfold qf at g;split at g
   .assumption
   .exact g
  have l:=qt F;have h2:=jP o m;refine⟨?_,C,(by rw[e,n];show(jr _ _).length<=_;unfold jr;rw[cz];omega),(by rw[G,m];intro h;cases h),(by rw[G,m];intro h;cases h),?_⟩
  .rw[e,n];refine⟨aX A.sh.table (by omega),λc d=>?_,(by show(2:Nat)<=1000;omega),aL _,aL _,λf H=>(by cases H),A.chk⟩;have q:=QQ D s.2.2.2.1;have hl:(eC (an db s.2.2.1) s.2.2.2.1).length=2:=by unfold eC;rw[cz];exact h2
   generalize P:eC (an db s.2.2.1) s.2.2.2.1=cs at q hl
   match cs,hl with
   | [a,b],_=>
    have d:c∈xE (an db s.2.2.1) s.2.2.2.1:=d;unfold xE at d;rw[P]at d;rcases cf.1 d with rfl|d
    .exact q a (by simp)
    .rw[dO]at d;subst d;exact q b (by simp)
  .intro _;rw[B,e,n]
   match T:s.2.2.2.1,h2 with
   | [a,b],_=>
    rw[T]at l;exact⟨rfl,zV (an db s.2.2.1) a,zV (an db s.2.2.1) b,rfl,DQ (l a (by simp)),DQ (l b (by simp))⟩
section
variable {db:List (Sem zk)} {p:Sem am}
end
def kx(p:ap)(row:zw):zw:=List.map (λc=>zX c row) p.t.1
def KX(p:ap)(s:zo)(row:zw):zo:=if(zX (getD p.t.1 (toNat 1) (zi zj)) row).1=0 then s else py s (zX (getD p.t.1 (toNat 1) (zi zj)) row)
def Fd(src:zP):ah:=src.getD (toNat 1) (zi zk)
def Dy(p:ap)(src:zP)(v:zo)(row:zw):zw:=
 if p.1=gj then row++kx p (getD (Fd src).2 (ab (λr=>bC r (Fd src).1.2.2.1 v) (Fd src).2 0).toNat (zi zf.sl))else kx p row
def rH(p:ap)(src:zP)(v:zo)(rows:List zw):List zw:=
 if p.1=lm then(ite (rows=[]) [] [[v,rows.foldl (KX p) (1,0,[])]])else rows.map (Dy p src v)
section
variable {db:List (Sem zk)} {p:Sem am} {l1:List (Sem zk)} {rows acc:List (List (Sem zf))} {v:Sem zf}
end
theorem DP(a:Int)(rows:List zw):∀L:zw,L.Nodup->(∀u∈L,u.1≠0)->
  (L.map λu=>(rows.filter (NT a u)).length).sum+(rows.filter λrow:zw=>!L.any λu:zo=>NT a u row).length=Io rows
 |[],_,_=>by simp
 | u :: L,hn,h0=>by
  rw[List.nodup_cons]at hn;have h:=DP a rows L hn.2 λx l=>h0 x (mX _ l)
  rw[dC,List.sum_cons];have m:(rows.filter (NT a u)).length+(rows.filter λrow:zw=>!(u::L).any λu:zo=>NT a u row).length=(rows.filter λrow:zw=>!L.any λu:zo=>NT a u row).length:=by
   clear h
   induction rows with
   |nil=>rfl
   | cons row r h=>
    simp only[List.filter_cons,List.any_cons];cases c:NT a u row with
    | true=>
     have d:(L.any λu:zo=>NT a u row)=Q4:=by
      rw[List.any_eq_false];intro v j g;have e:=(jE.1 c).1;have b:=(jE.1 g).1;exact hn.1 (by rw[<-e,b];exact j)
     simp only[d,Bool.or_false,ci,da,zh,zE,zp,eA]at h|-;simp only[List.any_cons]at h;omega
    | false=>
     simp only[Bool.false_or,zE,zp];simp only[List.any_cons]at h;cases(L.any λu:zo=>NT a u row)with
     |true=>simpa using h
     | false=>
      simp only[da,zh,eA];omega
  omega
section
variable {db:List (Sem zk)} {p:Sem am}
theorem aP.ne0(h:aP db p){u:zo}(a:u∈cj p (zS db p)):u.1≠0:=((qZ λ_ b=>h.may b).2 u).1 a |>.2
theorem aP.rise(h:aP db p):(cj p (zS db p)).Pairwise yz:=(qZ λ_ a=>h.may a).1
theorem aP.nodup(h:aP db p):(cj p (zS db p)).Nodup:=by unfold List.Nodup;exact h.rise.imp λ{a b} x(e:a=b)=>gh (a:=b) (by rw[e]at x;exact x)
end
def uu(db:zP)(p:ap)(v:zo):List zw:=(dR db p).2.filter (NT (cM p (zS db p)) v)
def iE(db:zP)(p:ap)(v:zo):List zw:=(rH p (zS db p) v (uu db p v)).filter λr=>cy p.2.2.2.1 r==(0:Int)
theorem pX(h:zK c (Io row)=Q3):zX c row∈row:=by
 have x:c.toNat<Io row:=by
  unfold zK at h;simp only[aF,aR]at h;omega
 unfold zX;rw[aZ,zZ x];exact bp x
theorem L8{p:ap}:∀(l:List zw)(s:zo),lj s->lj (l.foldl (KX p) s)
 |[],_,h=>h
 | a::r,s,h=>L8 r _ (by
  unfold KX;split
  .exact h
  .exact KU _ _)
section
variable {db:List (Sem zk)} {p:Sem am} {v:Sem zf}
theorem yx{row:zw}(h:row∈uu db p v):row∈(dR db p).2/\zX (cM p (zS db p)) row=v/\v.1≠0:=⟨(List.mem_filter.1 h).1,jE.1 (List.mem_filter.1 h).2⟩
theorem Pm:(rH p (zS db p) v (uu db p v)).length<=(uu db p v).length:=by
 unfold rH;split
 .split
  .simp
  next h=>have:=List.length_pos_iff.2 h;simp;omega
 .simp
theorem zeb(_:aP db p)(m:tn db p)(d:p.1=gj){row:zw}(j:row∈uu db p v):
  ∃y:ah,zS db p=[dR db p,y]/\ed y/\KB y/\(∀c∈p.t.1,zK c (Io y.1.2.1)=Q3)/\getD (Fd (zS db p)).2 (ab (λr=>bC r (Fd (zS db p)).1.2.2.1 v) (Fd (zS db p)).2 0).toNat (zi zf.sl)∈y.2:=by
 obtain⟨_,y,g,w,A,s,z⟩:=m.join d;obtain⟨n,q,o⟩:=yx j;have a:cM p (zS db p)=p.t.2:=by unfold cM;rw[zg (by rw[d];decide),ze d]
 have l:Fd (zS db p)=y:=by rw[g];rfl
 have x:=z _ n (by rw[<-a,q];exact o);rw[<-a,q]at x;refine⟨y,g,w,A,s,?_⟩;rw[l];rcases eY (λr=>bC r y.1.2.2.1 v) y.2 0 with⟨e,_⟩|⟨k,b,e,B,_⟩
 .unfold fY at x;rw[e]at x;exact zC x (by decide)
 .rw[er]at e;rw[e,z7 _ _ b];exact bp b
theorem zk2(h:aP db p)(m:tn db p):∀r∈rH p (zS db p) v (uu db p v),∀x∈r,lj x:=by
 intro r d x b;unfold rH at d;split at d
 .split at d
  .cases d
  .rename_i n;rw[dO]at d;subst d;rcases cf.1 b with rfl|b
   .obtain⟨row,a⟩:=List.exists_mem_of_ne_nil _ n;obtain⟨q,o,_⟩:=yx a;rw[<-o];exact m.fr.vals _ q _ (pX (h.inn _ q).1)
   .rw[dO]at b;subst b;exact L8 _ _ ⟨by decide,by decide,sw⟩
 .rename_i w;obtain⟨row,a,rfl⟩:=aE.1 d;obtain⟨q,o,_⟩:=yx a;unfold Dy at b;split at b
  .rename_i l;obtain⟨y,_,A,B,z,s⟩:=zeb h m l a;rcases bZ.1 b with b|b
   .exact m.fr.vals _ q _ b
   .obtain⟨c,g,rfl⟩:=aE.1 b;refine B.vals _ s _ (pX ?_);rw[(dl (A.fits _ s)).1];exact z c g
  .rename_i l;obtain⟨c,g,rfl⟩:=aE.1 b;have j:p.1=dj:=by
    rcases h.mig with e|e|e
    .exact e
    .exact zC e l
    .exact zC e w
   refine m.fr.vals _ q _ (pX ?_);rw[(h.inn _ q).2];exact(m.copy j).1 c g
theorem Xb:(iE db p v).length<=(uu db p v).length:=aX (List.length_filter_le _ _) Pm
theorem Xa(h:aP db p)(m:tn db p):∀r∈iE db p v,cy p.2.2.2.1 r=(0:Int)/\zps p.2.2.2.1.2.2.1 r/\dX p.2.2.2.1=Q3:=by
 intro r j;obtain⟨e,x⟩:=List.mem_filter.1 j;have x:cy p.2.2.2.1 r=(0:Int):=by simpa using x
 obtain⟨c,d,_⟩:=dl x;have b:dX p.2.2.2.1=Q3:=by
  cases g:dX p.2.2.2.1 with
  |true=>rfl
  | false=>
   unfold cy at x;rw[g,ze JX]at x;cases x
 have a:zK p.2.2.2.1.2.2.1 (Io r)=Q3:=by rw[c];exact oG (gn b).1
 exact⟨x,⟨a,zk2 h m r e _ (pX a),d _ (pX a)⟩,b⟩
end
set_option maxRecDepth 100000
section
variable {db:List (Sem zk)} {p:Sem am} {us:List (Sem zf)}
end
section
variable {db:List (Sem zk)} {p:Sem am} {v:Sem zf}
end
section
variable {db:List (Sem zk)} {p:Sem am} {v:Sem zf}
end
def Fr(db:zP)(p:ap)(v:zo):Nat:=(rH p (zS db p) v (uu db p v)).length-(iE db p v).length
def dK(l:zw):zw:=l.foldl (λacc a=>if acc.any (λu=>FJ u a)=Q3 then acc else acc++[a]) []
def gG(db:zP)(p:ap)(us:zw):Nat:=(us.map (Fr db p)).sum
theorem vB(l:zw)(a:zo):dK (l++[a])=if(dK l).any (λu=>FJ u a)=Q3 then dK l else dK l++[a]:=by unfold dK;rw[List.foldl_append];rfl
theorem MI(l:zw)(a:zo):a∈dK l↔a∈l:=by
 have d:∀(n:Nat)(l:zw),Io l=n->(a∈dK l↔a∈l):=by
  intro n
  induction n with
  |zero=>intro l c;rw[List.length_eq_zero_iff.1 c];exact Iff.rfl
  | succ n x=>
   intro l c;obtain⟨e,b,rfl⟩:∃e b,l=e++[b]:=⟨l.dropLast,l.getLast (List.ne_nil_of_length_pos ow),(List.dropLast_concat_getLast _).symm⟩;have x:=x e (by simpa using c);rw[vB];split
   .rename_i h;obtain⟨u,g,j⟩:=List.any_eq_true.1 h;rw[kM.1 j]at g;rw[x,bZ,dO];refine⟨.inl,λh=>?_⟩;rcases h with h|rfl
    .exact h
    .refine x.1 ?_;exact g
   .rw[bZ,bZ,x]
 exact d _ l rfl
theorem YZ(l:zw)(a:zo):(dK l).any (λu=>FJ u a)=l.any (λu=>FJ u a):=by rw[gU,List.any_eq_true,List.any_eq_true];exact⟨λ⟨u,h,x⟩=>⟨u,(MI l u).1 h,x⟩,λ⟨u,h,x⟩=>⟨u,(MI l u).2 h,x⟩⟩
theorem ua(l:zw):(dK l).Nodup:=by
 have d:∀(n:Nat)(l:zw),Io l=n->(dK l).Nodup:=by
  intro n
  induction n with
  |zero=>intro l c;rw[List.length_eq_zero_iff.1 c];exact List.nodup_nil
  | succ n a=>
   intro l c;obtain⟨g,b,rfl⟩:∃g b,l=g++[b]:=⟨l.dropLast,l.getLast (List.ne_nil_of_length_pos ow),(List.dropLast_concat_getLast _).symm⟩;have a:=a g (by simpa using c);rw[vB];split
   .exact a
   next h=>rw[List.nodup_append];refine⟨a,sw,λx m y j e=>h ?_⟩;rw[dO]at j;subst j;exact List.any_eq_true.2 ⟨x,m,kM.2 e⟩
 exact d _ l rfl
theorem Ur(h:a.Nodup):dK a=a:=by
 have d:∀(n:Nat)(a:zw),Io a=n->a.Nodup->dK a=a:=by
  intro n
  induction n with
  |zero=>intro a x _;rw[List.length_eq_zero_iff.1 x];rfl
  | succ n j=>
   intro a x c;obtain⟨l,b,rfl⟩:∃l b,a=l++[b]:=⟨a.dropLast,a.getLast (List.ne_nil_of_length_pos ow),(List.dropLast_concat_getLast _).symm⟩;rw[List.nodup_append]at c;rw[vB,j l (by simpa using x) c.1,zg];rw[List.any_eq_true];rintro⟨u,g,e⟩;exact c.2.2 u g b sw (kM.1 e)
 exact d _ a rfl h
section
variable {db:List (Sem zk)} {p:Sem am} {v:Sem zf} {us:List (Sem zf)}
theorem ME(h:v.1=0):uu db p v=[]:=List.filter_eq_nil_iff.2 λ_ _ x=>(jE.1 x).2 h
theorem zk4(h:v.1=0):rH p (zS db p) v (uu db p v)=[]:=by rw[ME h];unfold rH;split<;>rfl
theorem zcJ:(iE db p v).length<=(rH p (zS db p) v (uu db p v)).length:=List.length_filter_le _ _
theorem Yn(us:zw)(d:us.Nodup):(us.map λu=>(rH p (zS db p) u (uu db p u)).length).sum<=(dR db p).2.length:=by
 have b:∀l:zw,(l.map λu=>(rH p (zS db p) u (uu db p u)).length).sum=((l.filter λu=>u.1!=0).map λu=>(rH p (zS db p) u (uu db p u)).length).sum:=by
  intro l
  induction l with
  |nil=>rfl
  | cons a r x=>
   rw[dC,List.sum_cons,List.filter_cons,x];by_cases h:a.1=0
   .rw[zg (by simpa using h),zk4 h];simp
   .rw[ze (by simpa using h),dC,List.sum_cons]
 have c:∀l:zw,(l.map λu=>(rH p (zS db p) u (uu db p u)).length).sum<=(l.map λu=>(uu db p u).length).sum:=by
  intro l
  induction l with
  |nil=>exact aj _
  | cons a r x=>
   rw[dC,List.sum_cons,dC,List.sum_cons];have:=Pm (db:=db) (p:=p) (v:=a);omega
 have g:=DP (cM p (zS db p)) (dR db p).2 (us.filter λu=>u.1!=0) (d.filter _) λu e=>by simpa using(List.mem_filter.1 e).2
 rw[b];have:=c (us.filter λu=>u.1!=0);unfold uu at this|-;omega
theorem Di(us:zw):(us.flatMap (iE db p)).length+gG db p us=(us.map λu=>(rH p (zS db p) u (uu db p u)).length).sum:=by
 induction us with
 |nil=>rfl
 | cons a r h=>
  unfold gG at h|-;rw[List.flatMap_cons,gS,dC,List.sum_cons,dC,List.sum_cons,<-h];have:=zcJ (db:=db) (p:=p) (v:=a);unfold Fr;omega
end
section
variable {db:List (Sem zk)} {p:Sem am} {us:List (Sem zf)}
theorem xD(h:aP db p)(us:zw)(x:us.Nodup):(us.flatMap (iE db p)).length<=200/\gG db p us<=200:=by have a:=Di (db:=db) (p:=p) us;have b:=Yn (db:=db) (p:=p) us x;have:=h.rel.few;omega
end
section
variable {p:Sem am} {src:List (Sem zk)} {u:Sem zf} {row:List (Sem zf)} {rows:List (List (Sem zf))}
theorem R7(d:∀c∈p.t.1,zK c (Io row)=Q3)(g:Io p.t.1<=1000):Ih (p,src) row=Q1 (kx p row,()):=by
 have e:(zgq (p,src) row).val=Q1 (.inl (.h3 row p.t.1 (Io p.t.1:Int) ((0:Nat):Int) [])):=rfl;have x:=zN.all (t:=SF) 1 (λi=>.h3 row p.t.1 (Io p.t.1:Int) (i:Int) ((p.t.1.take i).map λc=>zX c row)) (Io p.t.1) λi h=>zN.of (by
  have a:=d _ (bp h);have b:Q0 (((p.t.1.take i).map λc=>zX c row).length+[zX p.t.1[i] row].length<=1073741824)=Q3:=by simp;omega
  simp only[SF,Q8,zL h,zz h,z7 _ _ h,a,zh];rw[ze b,zt i um,bx h,eI];rfl)
 simp only[gF,List.take_zero,pS]at x;refine zB e (x.ends (z6.of (r:=(AV.vec 0,[AO.vec zf (kx p row)])) ?_)) ow rfl;simp only[SF,Q8,zG,zE,zp];rfl
theorem zcp(g:∀row∈rows,∀c∈p.t.1,zK c (Io row)=Q3)(j:Io p.t.1<=1000)(m:Io rows<=1000):Ie (p,src) u rows=Q1 (rows.map (kx p),()):=by
 have l:(zqZ (p,src) u rows).val=Q1 (.inl (.h3 rows (Io rows:Int) ((0:Nat):Int) ((p,src),()) [])):=rfl;have x:=zN.all (t:=zdY) 1 (λi=>.h3 rows (Io rows:Int) (i:Int) ((p,src),()) ((rows.take i).map (kx p))) (Io rows) λi h=>zN.of (by
  have a:=R7 (src:=src) (g _ (bp h)) j;have b:wQ (p,src) rows[i]=Q3:=by unfold wQ;rw[a];rfl
  have e:Gc (p,src) rows[i]=kx p rows[i]:=by unfold Gc;rw[a];rfl
  have d:Q0 (((rows.take i).map (kx p)).length+[kx p rows[i]].length<=1073741824)=Q3:=by simp;omega
  simp only[zdY,Q8,zm,aQ,zL h,zz h,z7 _ _ h,b,e,zh];rw[ze d,zt i um,bx h,eI];rfl)
 simp only[gF,List.take_zero,pS]at x;refine zB l (x.ends (z6.of (r:=(AV.vec 0,[AO.vec zf.sl (rows.map (kx p))])) ?_)) ow rfl;simp only[zdY,Q8,zG,zE,zp]
theorem zco{a b:zw}(m:Io a<=1000)(o:Io b<=1000):QR [a,b]=Q1 (a++b,()):=by
 have e:(zgr [a,b]).val=Q1 (.inl (.h3 [a,b] 0 [a,b] 2 0)):=rfl;have w:Γ Δ (0+(Io a:Int))=(Io a:Int):=by rw[ee];omega
 have l:Γ Δ ((Io a:Int)+(Io b:Int))=((Io a+Io b:Nat):Int):=by rw[ee];omega
 have n:Q0 (LT.lt (α:=Int) (Io a:Int) 0)=Q4:=ae ow;have j:Q0 (LT.lt (α:=Int) ((Io a+Io b:Nat):Int) 0)=Q4:=ae ow;have g:zN HR 1 (.h3 [a,b] 0 [a,b] 2 0) (.h3 [a,b] (Io a:Int) [a,b] 2 1):=zN.of (by
  show(br Q3 (Qc Q3 (br (Q0 (LT.lt (α:=Int) (Γ Δ (0+(Io a:Int))) 0)) Tr.err (Q9 (mS.h3 [a,b] (Γ Δ (0+(Io a:Int))) [a,b] 2 1)))) _).val=_;rw[w,n];rfl)
 have h:zN HR 1 (.h3 [a,b] (Io a:Int) [a,b] 2 1) (.h3 [a,b] ((Io a+Io b:Nat):Int) [a,b] 2 2):=zN.of (by
  show(br Q3 (Qc Q3 (br (Q0 (LT.lt (α:=Int) (Γ Δ ((Io a:Int)+(Io b:Int))) 0)) Tr.err (Q9 (mS.h3 [a,b] (Γ Δ ((Io a:Int)+(Io b:Int))) [a,b] 2 2)))) _).val=_;rw[l,j];rfl)
 have x:zN HR 1 (.h3 [a,b] ((Io a+Io b:Nat):Int) [a,b] 2 2) (.h11 [a,b] 2 0 []):=zN.of (by
  show(br Q4 _ (Qc (Q0 (LE.le (α:=Int) 0 ((Io a+Io b:Nat):Int))) (Qc (Q0 (LE.le (α:=Int) ((Io a+Io b:Nat):Int) 1000000)) (Q9 (mS.h11 [a,b] 2 0 []))))).val=_;rw[zy (show LE.le (α:=Int) 0 ((Io a+Io b:Nat):Int) by omega),zy (show LE.le (α:=Int) ((Io a+Io b:Nat):Int) 1000000 by omega)];rfl)
 have c:zN HR 1 (.h11 [a,b] 2 0 []) (.h11 [a,b] 2 1 a):=zN.of (by
  show(br Q3 (Qc Q3 (Qc (Q0 (([]:zw).length+Io a<=1073741824)) (Q9 (mS.h11 [a,b] 2 1 ([]++a))))) _).val=_;rw[zy (show([]:zw).length+Io a<=1073741824 by simp;omega)];rfl)
 have d:zN HR 1 (.h11 [a,b] 2 1 a) (.h11 [a,b] 2 2 (a++b)):=zN.of (by
  show(br Q3 (Qc Q3 (Qc (Q0 (Io a+Io b<=1073741824)) (Q9 (mS.h11 [a,b] 2 2 (a++b))))) _).val=_;rw[zy (show Io a+Io b<=1073741824 by omega)];rfl)
 exact zB e (((((g.trans h).trans x).trans c).trans d).ends (z6.of (r:=(AV.vec 0,[AO.vec zf (a++b)])) rfl)) ow rfl
end
section
variable {p:Sem am} {src:List (Sem zk)} {u:Sem zf} {rows:List (List (Sem zf))}
theorem Xc{c b:Int}(h:p.t.1=[c,b])(m:∀row∈rows,zK b (Io row)=Q3)(o:Io rows<=1000):AY (p,src) u rows=Q1 (ite (rows=[]) [] [[u,rows.foldl (KX p) (1,0,[])]],()):=by
 by_cases j:rows=[]
 .subst j;exact zO (r:=(Qb,[])) rfl rfl
 rw[zg j];have x:((Io rows:Int)==0)=Q4:=by
  have:=List.length_pos_iff.2 j;rw[dB];omega
 have n:(zkw (p,src) u rows).val=Q1 (.inl (.h5 rows (Io rows:Int) ((0:Nat):Int) ((p,src),()) (u,()) ((1,0,[]),()))):=by
  simp only[zkw,Q8,x,zE,zp];rfl
 have e:zK 1 (Io p.t.1)=Q3:=by rw[h];rfl
 have a:getD p.t.1 (toNat 1) (zi zj)=b:=by rw[h];rfl
 have l:=zN.all (t:=zd1) 1 (λi=>.h5 rows (Io rows:Int) (i:Int) ((p,src),()) (u,()) ((rows.take i).foldl (KX p) (1,0,[]),())) (Io rows) λi d=>zN.of (by
  have g:=m _ (bp d);simp only[zd1,Q8,zL d,zz d,z7 _ _ d,e,a,g,zh];rw[bx d,List.foldl_append,zt i um];show _=Q1 (Sum.inl (KR.h5 rows _ ((i+1:Nat):Int) _ _ (KX p _ _,())));unfold KX;rw[a];by_cases x:(zX b rows[i]).1=0
  .rw[ze x,zg (by simpa using x)]
  .rw[zg x,ze (by simpa using x)])
 simp only[gF,List.take_zero,List.foldl_nil]at l;refine zB n (l.ends (z6.of (r:=(sl zf.sl [[u,rows.foldl (KX p) (1,0,[])]],[])) ?_)) ow rfl;simp only[zd1,Q8,zG,zE,zp]
end
section
variable {db:List (Sem zk)} {p:Sem am}
theorem zdK(h:aP db p){row:zw}(x:row∈(dR db p).2):Io row<=1000:=aX (h.len x) ow
theorem zc8(h:aP db p)(m:tn db p)(s:p.1=gj)(u:zo){rows:List zw}(T:∀row∈rows,row∈uu db p u)(F:Io rows<=200):Ig (p,zS db p) u rows=Q1 (rows.map (Dy p (zS db p) u),()):=by
 obtain⟨_,y,B,M,yw,Z,yr⟩:=m.join s;have d:∀row∈rows,Io row<=1000/\fY y y.1.2.2.1 u=Q3:=λrow A=>by
  obtain⟨J,L,Y⟩:=yx (T row A);have e:cM p (zS db p)=p.t.2:=by unfold cM;rw[zg (by rw[s];decide),ze s]
  have a:=yr _ J (by rw[<-e,L];exact Y);rw[<-e,L]at a;exact⟨zdK h J,a⟩
 have n:∀row,Dy p (zS db p) u row=row++kx p (getD y.2 (ab (λr=>bC r y.1.2.2.1 u) y.2 0).toNat (zi zf.sl)):=λrow=>by
  unfold Dy;rw[ze s,B];rfl
 obtain⟨D,E⟩:=Nk u M.may;have e0:zK 1 (Io (zS db p))=Q3:=by rw[B];rfl
 have z:getD (zS db p) (toNat 1) (zi zk)=y:=by rw[B];rfl
 generalize zS db p=src at n e0 z|-;rcases eY (λr=>bC r y.1.2.2.1 u) y.2 0 with⟨j,_⟩|⟨k,w,j,_,_⟩
 .have W:rows=[]:=List.eq_nil_iff_forall_not_mem.2 λrow A=>by
   have:=(d row A).2;unfold fY at this;rw[j]at this;exact zC this (by decide)
  subst W;refine zO (r:=(Qb,[])) ?_ rfl;have x:Q0 (LT.lt (α:=Int) (-1) 0)=Q3:=by decide
  simp only[zc7,Q8,zm,aQ,e0,z,D,E,j,x,zh]
 .rw[er]at j;have x:Q0 (LT.lt (α:=Int) (k:Int) 0)=Q4:=ae ow;have g:∀c∈p.t.1,zK c (Io y.2[k])=Q3:=λc U=>by
   rw[(dl (M.fits _ (bp w))).1];exact Z c U
  have H:=R7 (src:=src) g m.few;have N:wQ (p,src) y.2[k]=Q3:=by unfold wQ;rw[H];rfl
  have C:Gc (p,src) y.2[k]=kx p y.2[k]:=by unfold Gc;rw[H];rfl
  have q:(kx p y.2[k]).length<=1000:=by unfold kx;rw[cz];exact m.few
  have o:rows.map (Dy p src u)=rows.map (λrow=>row++kx p y.2[k]):=List.map_congr_left λrow _=>by rw[n,j,z7 _ _ w]
  rw[o];generalize kx p y.2[k]=b at C q|-;have X:(zc7 (p,src) u rows).val=Q1 (.inl (.h7 b rows (Io rows:Int) ((0:Nat):Int) [])):=by
   simp only[zc7,Q8,zm,aQ,e0,z,D,E,j,x,zz w,z7 _ _ w,N,C,zE,zh,zp];rfl
  have G:=zN.all (t:=zdZ) 1 (λi=>.h7 b rows (Io rows:Int) (i:Int) ((rows.take i).map λrow=>row++b)) (Io rows) λi l=>zN.of (by
   have I:=zco (d _ (bp l)).1 q;have O:VY [rows[i],b]=Q3:=by unfold VY;rw[I];rfl
   have P:zjE [rows[i],b]=rows[i]++b:=by unfold zjE;rw[I];rfl
   have S:Q0 (((rows.take i).map λrow=>row++b).length+[rows[i]++b].length<=1073741824)=Q3:=by simp;omega
   simp only[zdZ,Q8,zL l,zz l,z7 _ _ l,O,P,zh];rw[ze S,zt i um,bx l,eI];rfl)
  simp only[gF,List.take_zero,pS]at G;refine zB X (G.ends (z6.of (r:=(AV.vec 0,[AO.vec zf.sl (rows.map λrow=>row++b)])) ?_)) ow rfl;simp only[zdZ,Q8,zG,zE,zp]
theorem Rl(h:aP db p)(m:tn db p)(u:zo){R:List zw}(B:∀row∈R,row∈uu db p u)(d:Io R<=200):
  B7 (p,zS db p) u R=Q1 ((rH p (zS db p) u R).filter (λr=>cy p.2.2.2.1 r==(0:Int)),(((rH p (zS db p) u R).length-((rH p (zS db p) u R).filter λr=>cy p.2.2.2.1 r==(0:Int)).length:Nat):Int),()):=by
 have q:(rH p (zS db p) u R).length<=200:=by
  unfold rH;split
  .split<;>simp
  .rw[cz];exact d
 have F:(XA (p,zS db p) u R).val=Q1 (.inl (.h5 0 (rH p (zS db p) u R) ((rH p (zS db p) u R).length:Int) ((0:Nat):Int) ((p,zS db p),()) [])):=by
  rcases h.mig with e|e|e
  .have x:=zcp (src:=zS db p) (u:=u) (rows:=R) (λrow D c x=>by
    obtain⟨E,_⟩:=yx (B row D);rw[(h.inn _ E).2];exact(m.copy e).1 c x) m.few ow
   have l:N8 (p,zS db p) u R=Q3:=by unfold N8;rw[x];rfl
   have n:VJ (p,zS db p) u R=rH p (zS db p) u R:=by
    unfold VJ rH;rw[x,zg (by rw[e];decide)];refine List.map_congr_left λrow _=>?_
    unfold Dy;rw[zg (by rw[e];decide)]
   have j:(p.1==dj)=Q3:=by rw[e];rfl
   simp only[XA,Q8,zm,aQ,j,l,n,zh];rfl
  .have x:=zc8 h m e u B d;have l:Oa (p,zS db p) u R=Q3:=by unfold Oa;rw[x];rfl
   have n:VL (p,zS db p) u R=rH p (zS db p) u R:=by
    unfold VL rH;rw[x,zg (by rw[e];decide)];rfl
   have j:(p.1==dj)=Q4:=by rw[e];rfl
   have y:(p.1==gj)=Q3:=by rw[e];rfl
   simp only[XA,Q8,zm,aQ,j,y,l,n,zE,zh,zp];rfl
  .obtain⟨_,a,b,g,J,H⟩:=m.group e;have x:=Xc (src:=zS db p) (u:=u) (rows:=R) g (λrow D=>by
    obtain⟨E,_⟩:=yx (B row D);rw[(h.inn _ E).2];exact H) ow
   have l:If (p,zS db p) u R=Q3:=by unfold If;rw[x];rfl
   have n:N9 (p,zS db p) u R=rH p (zS db p) u R:=by
    unfold N9 rH;rw[x,ze e];rfl
   have j:(p.1==dj)=Q4:=by rw[e];rfl
   have y:(p.1==gj)=Q4:=by rw[e];rfl
   have G:(p.1==lm)=Q3:=by rw[e];rfl
   simp only[XA,Q8,zm,aQ,j,y,G,l,n,zE,zh,zp];rfl
 generalize rH p (zS db p) u R=rows at q F|-;have o:=zN.all (t:=zdW) 1 (λi=>.h5 ((i-((rows.take i).filter λr=>cy p.2.2.2.1 r==(0:Int)).length:Nat):Int) rows (Io rows:Int) (i:Int) ((p,zS db p),()) ((rows.take i).filter λr=>cy p.2.2.2.1 r==(0:Int))) (Io rows) λi w=>zN.of (by
  have C:((rows.take i).filter λr=>cy p.2.2.2.1 r==(0:Int)).length<=i:=aX (List.length_filter_le _ _) sg;rw[bx w,List.filter_append];generalize((rows.take i).filter λr=>cy p.2.2.2.1 r==(0:Int))=acc at C|-;have I:Q0 (Io acc+[rows[i]].length<=1073741824)=Q3:=by simp;omega
  simp only[zdW,Q8,zm,aQ,zL w,zz w,z7 _ _ w,I,zh];rw[zt i um,zt (i-Io acc) um];cases s:cy p.2.2.2.1 rows[i]==(0:Int)with
  | true=>
   have z:(cy p.2.2.2.1 rows[i]!=(0:Int))=Q4:=by rw[bne,s];rfl
   rw[zg (by rw[z];simp),List.filter_cons,ze s,List.filter_nil,gS];have A:i+1-(Io acc+[rows[i]].length)=i-Io acc:=by simp
   rw[A]
  | false=>
   have z:(cy p.2.2.2.1 rows[i]!=(0:Int))=Q3:=by rw[bne,s];rfl
   rw[ze z,List.filter_cons,zg (by rw[s];simp),List.filter_nil,sL];have A:i+1-Io acc=i-Io acc+1:=by omega
   rw[A])
 simp only[gF,List.take_zero,List.filter_nil]at o;refine zB F (o.ends (z6.of (r:=(tup [AV.vec 0,ai ((Io rows-(rows.filter λr=>cy p.2.2.2.1 r==(0:Int)).length:Nat):Int)],[AO.vec zf.sl (rows.filter λr=>cy p.2.2.2.1 r==(0:Int))])) ?_)) ow rfl;simp only[zdW,Q8,zG,zE,zp]
theorem zjL(h:aP db p)(m:tn db p)(u:zo):B7 (p,zS db p) u (uu db p u)=Q1 (iE db p u,((Fr db p u:Nat):Int),()):=Rl h m u (λ_ h=>h) (aX (List.length_filter_le _ _) h.rel.few)
theorem zcE(h:aP db p)(m:tn db p)(u:zo):B7 (p,zS db p) u []=Q1 ([],0,()):=by
 have e:rH p (zS db p) u []=[]:=by
  unfold rH;split<;>rfl
 have:=Rl h m u (R:=[]) (λ_ h=>by cases h) sw;rw[e]at this;exact this
end
def zeE:z8:=aW (List.replicate 1 Q2) (eJ LP Tryz.f93 (List.replicate 1 Q2))
theorem zaW:FK 93 zeE:=bT _ kV (bL kw)
def ze8:z8:=aW (List.replicate 2 Q2) (eJ LP Tryz.f162 (List.replicate 2 Q2))
theorem zbo:FK 162 ze8:=bT _ kV (bL kw)
def OH:=LP.addL [(93,zeE),(162,ze8)]
theorem CL:zu OH:=kV.addL<|fc zaW<|fc zbo<|iw
def zeG:z8:=aW (List.replicate 3 Q2) (eJ OH Tryz.f94 (List.replicate 3 Q2))
theorem zaY:FK 94 zeG:=bT _ CL (bL kw)
def CM:=OH.add 94 zeG
theorem CN:zu CM:=CL.add zaY
abbrev XY:=kl [(1,[0,1,2,3,8]),(4,[0,1,2,3,8,9])]
inductive yG where
 |h1 (i1:Int) (i2:Int) (i3f_0_0:Int) (i8:Int) (lh_0:List (Sem zf.sl))
 |h4 (i1:Int) (i2:Int) (i3f_0_0:Int) (i8:Int) (i9:Int) (lh_0:List (Sem zf.sl))
abbrev Lm:yG->Nat×St
 |.h1 x a h b l=>(1,⟨tm 53 [(0,AV.vec 0),(1,ai x),(2,ai a),(3,AV.clo (Fn.func 94) [agg [ai h]] []),(8,ai b)],[AO.vec zf.sl l]⟩)
 |.h4 x a h b c l=>(4,⟨tm 53 [(0,AV.vec 0),(1,ai x),(2,ai a),(3,AV.clo (Fn.func 94) [agg [ai h]] []),(8,ai b),(9,ai c)],[AO.vec zf.sl l]⟩)
theorem zlm:zM CM.P 223 Tryz.f223 4:=bL kw
def Rw(l:List zw)(a b k:Int):Tr (yG⊕aw):=
 Q9 (yG.h1 a b k (Γ Δ (a+1)) l)
theorem zj6(l:List zw)(a b k:Int):rn CM 1 XY Tryz.f223 [AV.vec 0,ai a,ai b,AV.clo (Fn.func 94) [agg [ai k]] []] [AO.vec (Sh.sl zf) l]=(Rw l a b k).map (lf Tryz.f223 Lm):=kw
def tf:yG->Tr (yG⊕aw)
 | .h1 d n h e l=>
  br (Q0 (e<n)) (Q9 (yG.h4 d n h e e l))
  (re (tup []) [AO.vec zf.sl l])
 | .h4 d n h e x l=>
  let s:=Q0 (x.toNat<Io l)
  let a:=Γ Δ (x-1)
  let y:=zK a (Io l)
  let z:=Q0 (a.toNat<Io l)
  let A:=Q0 (h<0)
  let o:=l.getD x.toNat (zi zf.sl)
  let C:=(↑(Io o):Int)
  let B:=bif A then Q3 else Q0 (h>=C)
  let q:=l.getD a.toNat (zi zf.sl)
  let D:=(↑(Io q):Int)
  let b:=bif A then Q3 else Q0 (h>=D)
  let g:=bif b then Q3 else zK h (Io q)
  let j:=getD q h.toNat (zi zf)
  let m:=getD o h.toNat (zi zf)
  let w:=bif B then bif b then aV (0,0,[]) (0,0,[])else aV (0,0,[]) j else bif b then aV m (0,0,[])else aV m j
  let c:=l.set x.toNat q
  Qc (cond (Q0 (x>d)) (zK x (Io l)&&(s&&(y&&(z&&bif B then g else zK h (Io o)&&g)))) Q3)
  (br (cond (Q0 (x>d)) (Q0 (w<0)) Q4) (Qc y (Qc z (Qc (zK x (Io l)) (Qc s (Qc (zK x (Io l)) (Qc s (Qc (zK a (Io c)) (Qc (Q0 (a.toNat<Io c)) (Q9 (yG.h4 d n h e a (c.set a.toNat o))))))))))) (Q9 (yG.h1 d n h (Γ Δ (e+1)) l)))
theorem zlw:∀s,run CM 1 XY (Func.results Tryz.f223).toList 400 (aa Tryz.f223 (Lm s).1) (Lm s).2=(tf s).map (lf Tryz.f223 Lm):=by intro s;cases s<;>kernel_rfl
def Pb(l:List zw)(a b k:Int):=bR tf 100000000 (Rw l a b k)
def KA(r:Option aw):Option (List zw):=match r with
 |some (.tup [],[.vec (.sl MM) l])=>Q1 l
 |_=>Q2
theorem sr{r:Option aw}(h:(KA r).isSome=Q3):r=Q1 (.tup [],[.vec (.sl zf) ((KA r).getD [])]):=by
 unfold KA at h|-;split at h
 .rfl
 .cases h
def xH(l:List zw)(a b k:Int):=KA (Pb l a b k)
def zfr:eW [Q2,Q2,Q2,Q2]:=λx h=>match x,h with
 |(.vec 0,.int .i64 a,.int .i64 b,.clo (.func 94) [.agg [.int .i64 k]] [],_),[.vec (.sl MM) l]=>.chk ((xH l a b k).isSome) (.ok (.tup [],[.vec (.sl zf) ((xH l a b k).getD [])]))
 |_,_=>.err
def zfc:z8:=aW [Q2,Q2,Q2,Q2] zfr
theorem zbs:FK 223 zfc:=by
 refine qW (ι:=List zw×Int×Int×Int) (args:=λy=>[AV.vec 0,ai y.2.1,ai y.2.2.1,AV.clo (Fn.func 94) [agg [ai y.2.2.2]] []]) (heap:=λy=>[AO.vec zf.sl y.1]) (i:=λy=>Rw y.1 y.2.1 y.2.2.1 y.2.2.2) (t:=tf) (e:=Lm) (n:=100000000) (n0:=1) CN zlm (λ_=>rfl) (λy=>zj6 _ _ _ _) zlw (λx h g c=>?_);unfold zfr at c;split at c
 .rename_i a b k u l;simp only[Q8]at c;split at c
  next d=>simp only[bj]at c;subst c;exact⟨(l,a,b,k),rfl,rfl,sr d⟩
  .cases c
 .simp at c
def CO:=CM.add 223 zfc
theorem CQ:zu CO:=CN.add zbs
abbrev X1:=kl [(1,[0,1,2,3,10])]
inductive F0 where
 |h1 (i1:Int) (i2:Int) (i3:Int) (i10:Int) (lh_0:List (Sem zf.sl))
abbrev Lp:F0->Nat×St
 |.h1 x a b h l=>(1,⟨tm 38 [(0,AV.vec 0),(1,ai x),(2,ai a),(3,ai b),(10,ai h)],[AO.vec zf.sl l]⟩)
theorem zlo:zM CO.P 305 Tryz.f305 5:=bL kw
def Xv(l:List zw)(a b n _:Int):Tr (F0⊕aw):=
 Q9 (F0.h1 a b n 0 l)
theorem zkc(l:List zw)(a b n k:Int):rn CO 1 X1 Tryz.f305 [AV.vec 0,ai a,ai b,ai n,AV.clo (Fn.func 94) [agg [ai k]] []] [AO.vec (Sh.sl zf) l]=(Xv l a b n k).map (lf Tryz.f305 Lp):=kw
def HS:F0->Tr (F0⊕aw)
 | .h1 e g j h l=>
  let a:=Γ Δ (g+h)
  let x:=Γ Δ (e+h)
  let c:=zK x (Io l)
  let d:=Q0 (x.toNat<Io l)
  let b:=l.set x.toNat (l.getD a.toNat (zi zf.sl))
  br (Q0 (h<j))
  (Qc (zK a (Io l)) (Qc (Q0 (a.toNat<Io l)) (Qc c (Qc d (Qc c (Qc d (Qc (zK a (Io b)) (Qc (Q0 (a.toNat<Io b)) (Q9 (F0.h1 e g j (Γ Δ (h+1)) (b.set a.toNat (l.getD x.toNat (zi zf.sl)))))))))))))
  (re (tup []) [AO.vec zf.sl l])
theorem zlz:∀s,run CO 1 X1 (Func.results Tryz.f305).toList 400 (aa Tryz.f305 (Lp s).1) (Lp s).2=(HS s).map (lf Tryz.f305 Lp):=by intro s;cases s<;>kernel_rfl
def ztm(l:List zw)(a b n k:Int):=bR HS 100000000 (Xv l a b n k)
def P3(l:List zw)(a b n k:Int):=KA (ztm l a b n k)
def zft:eW [Q2,Q2,Q2,Q2,Q2]:=λx h=>match x,h with
 |(.vec 0,.int .i64 a,.int .i64 b,.int .i64 n,.clo (.func 94) [.agg [.int .i64 k]] [],_),[.vec (.sl MM) l]=>.chk ((P3 l a b n k).isSome) (.ok (.tup [],[.vec (.sl zf) ((P3 l a b n k).getD [])]))
 |_,_=>.err
def zfh:z8:=aW [Q2,Q2,Q2,Q2,Q2] zft
theorem zbx:FK 305 zfh:=by
 refine qW (ι:=List zw×Int×Int×Int×Int) (args:=λy=>[AV.vec 0,ai y.2.1,ai y.2.2.1,ai y.2.2.2.1,AV.clo (Fn.func 94) [agg [ai y.t]] []]) (heap:=λy=>[AO.vec zf.sl y.1]) (i:=λy=>Xv y.1 y.2.1 y.2.2.1 y.2.2.2.1 y.t) (t:=HS) (e:=Lp) (n:=100000000) (n0:=1) CQ zlo (λ_=>rfl) (λy=>zkc _ _ _ _ _) zlz (λx h g c=>?_);unfold zft at c;split at c
 .rename_i a b n k u l;simp only[Q8]at c;split at c
  next d=>simp only[bj]at c;subst c;exact⟨(l,a,b,n,k),rfl,rfl,sr d⟩
  .cases c
 .simp at c
def CR:=CO.add 305 zfh
theorem CS:zu CR:=CQ.add zbx
abbrev X0:=kl [(2,[0,2,4,10,11])]
inductive BR where
 |h2 (i2:Int) (i4f_0_0:Int) (i10:Int) (i11:Int) (lh_0:List (Sem zf.sl))
abbrev Lo:BR->Nat×St
 |.h2 b h x a l=>(2,⟨tm 58 [(0,AV.vec 0),(2,ai b),(4,AV.clo (Fn.func 94) [agg [ai h]] []),(10,ai x),(11,ai a)],[AO.vec zf.sl l]⟩)
theorem zln:zM CR.P 267 Tryz.f267 5:=bL kw
def Rx(l:List zw)(a m b k:Int):Tr (BR⊕aw):=
 Q9 (BR.h2 m k (Γ Δ (m-a)) (Γ Δ (b-m)) l)
theorem zkb(l:List zw)(a m b k:Int):rn CR 1 X0 Tryz.f267 [AV.vec 0,ai a,ai m,ai b,AV.clo (Fn.func 94) [agg [ai k]] []] [AO.vec (Sh.sl zf) l]=(Rx l a m b k).map (lf Tryz.f267 Lo):=kw
def EY:BR->Tr (BR⊕aw)
 | .h2 b h x a l=>
  let c:=Γ Δ (b-x)
  let d:=P3 l c b a h
  let e:=P3 l c (Γ Δ (Γ Δ (b+a)-x)) x h
  let g:=P3 l c b x h
  br (x !=a)
  (br (Q0 (x>a)) (Qc d.isSome (Q9 (BR.h2 b h (Γ Δ (x-a)) a (d.getD [])))) (Qc e.isSome (Q9 (BR.h2 b h x (Γ Δ (a-x)) (e.getD [])))))
  (Qc g.isSome (re (tup []) [AO.vec zf.sl (g.getD [])]))
theorem zly:∀s,run CR 1 X0 (Func.results Tryz.f267).toList 400 (aa Tryz.f267 (Lo s).1) (Lo s).2=(EY s).map (lf Tryz.f267 Lo):=by intro s;cases s<;>kernel_rfl
def zlU(l:List zw)(a m b k:Int):=bR EY 100000000 (Rx l a m b k)
def UH(l:List zw)(a m b k:Int):=KA (zlU l a m b k)
def zfs:eW [Q2,Q2,Q2,Q2,Q2]:=λx h=>match x,h with
 |(.vec 0,.int .i64 a,.int .i64 m,.int .i64 b,.clo (.func 94) [.agg [.int .i64 k]] [],_),[.vec (.sl MM) l]=>.chk ((UH l a m b k).isSome) (.ok (.tup [],[.vec (.sl zf) ((UH l a m b k).getD [])]))
 |_,_=>.err
def zfg:z8:=aW [Q2,Q2,Q2,Q2,Q2] zfs
theorem zbw:FK 267 zfg:=by
 refine qW (ι:=List zw×Int×Int×Int×Int) (args:=λy=>[AV.vec 0,ai y.2.1,ai y.2.2.1,ai y.2.2.2.1,AV.clo (Fn.func 94) [agg [ai y.t]] []]) (heap:=λy=>[AO.vec zf.sl y.1]) (i:=λy=>Rx y.1 y.2.1 y.2.2.1 y.2.2.2.1 y.t) (t:=EY) (e:=Lo) (n:=100000000) (n0:=1) CS zln (λ_=>rfl) (λy=>zkb _ _ _ _ _) zly (λx h g c=>?_);unfold zfs at c;split at c
 .rename_i a m b k u l;simp only[Q8]at c;split at c
  next d=>simp only[bj]at c;subst c;exact⟨(l,a,m,b,k),rfl,rfl,sr d⟩
  .cases c
 .simp at c
def IA:=CR.add 267 zfg
theorem CT:zu IA:=CS.add zbw
end
end Cad
