/- Units. -/
import Derived.Test.YtjdjldbhjmgmkaaGreatDoorN21
namespace Cad
open Go Go.Proofs
open List renaming length->Io,take->Qg,length->N
open IntKind renaming wrap->Γ,i64->Δ
open Tr renaming val->Q8
open Bool renaming true->Z,false->M
open Option renaming some->Y
open Decidable renaming decide->K,decide->Q0
open Int renaming toNat->W
open List renaming getD->T
open Tr (chk br re)
open AV (nils agg tup ptr kb)
open AV renaming sl->O,str->X
open Cad renaming zj->Q,ai->J,ow->S,ze->R,Sem->L
set_option maxHeartbeats 4000000
noncomputable section
structure Td (p:zY) (src:zT):Prop where
 names:src.map (λx:ag=>x.1.1)=bY p.2.1 p.q.1
 two:two src=Z
 plan:bu (gQ src) (jN p src)=(0,p)
 few:Qz (jN p src)
 short:∀x∈gQ src,il x
 cols:N p.r.1.2.1<=1000
 same:Lu p p=Z/\Pb p p=Z
variable {src:zT}
theorem lL(h:two src=Z):0<N src/\N src<=2:=by
 match src,h with
 |[_],_=>simp
 |[_,_],_=>simp
variable {p:zY}
theorem zfV(h:Td p src):Uv p src=Y (0,()):=by
 have⟨l,w⟩:=lL h.two;have x:(bY p.2.1 p.q.1).length=N src:=by rw[<-h.names,cY]
 have s:(zt0 p src).val=Y (.inl (.h6 src (bY p.2.1 p.q.1) src (N src:Int) ((0:Nat):Int) (p,()))):=by
  have e:((N src:Int)!=((bY p.2.1 p.q.1).length:Int))=M:=by rw[x];simp
  show(br ((N src:Int)!=((bY p.2.1 p.q.1).length:Int)) _ _).val=_;rw[e];rfl
 have n:=zG.all (t:=zgx) 1 (λi=>.h6 src (bY p.2.1 p.q.1) src (N src:Int) (i:Int) (p,())) (N src) λi b=>zG.of (by
  have o:(!((T src i (Q zl)).1.1:zN)==(bY p.2.1 p.q.1).getD i (Q Sh.str))=M:=by
   rw[<-h.names,bD,bD,dN,aj b];simp
  simp only[zgx,Q8,zM b,zu b,zu (show i<(bY p.2.1 p.q.1).length by omega),zi,aI,o,zA,zm];rw[zt i um])
 have a:=zbf (p:=p) l h.cols;have d:R8 p src=Z:=by unfold R8;rw[a];rfl
 have g:zbe p src=jN p src:=by unfold zbe;rw[a];rfl
 have c:Pa (gQ src) (jN p src)=Y ((bu (gQ src) (jN p src)).2,(bu (gQ src) (jN p src)).1,()):=zoJ h.short (by rw[JF];omega) h.few;rw[h.plan]at c;have j:zoI (gQ src) (jN p src)=Z:=by unfold zoI;rw[c];rfl
 have m:pOf (gQ src) (jN p src)=(p,0):=by unfold pOf;rw[c];rfl
 refine zz s (n.ends (k:=1) (r:=(J 0,[])) (zV.of ?_)) S rfl;simp only[zgx,Q8,zJ,zn,aN,d,g,j,m,h.two,h.same.1,h.same.2,zA,zm];simp[l,show N src<=1000 by omega]
theorem xH(h:Td p src):F2 p src=Z/\R7 p src=0:=by have:=zfV h;exact⟨by unfold F2;rw[this];rfl,by unfold R7;rw[this];rfl⟩
def s50(db:zT)(n:List zN)(j i:Int)(x:ag):zT->dK->nQ
 |[],[]=>.h12 db n j i (x,())
 |[],b::r=>.h12b db n j i (x,()) (b::r)
 |a::l,[]=>.h12bb db n j i (x,()) (a::l)
 |a::l,b::r=>.h12bbb db n j i (x,()) (a::l) (b::r)
def SA(db:zT)(n:List zN)(j:Int):zT->nQ
 |[]=>.h4 db n j
 |a::l=>.h4b db n j (a::l)
variable {db acc:zT}{n:List zN}{c:Int}{x:ag}
theorem zgg{j:dK}{i:Nat}(b:i<N x.1.t.1)(o:N n<=1000)(g:N j<=1000)(m:i<=1000):
  (iv (s50 db n c (i:Int) x acc j)).val=Y (.inl (s50 db n c ((i+1:Nat):Int) x acc (ite (aP n (T x.1.t.1 i (Q zI)).2=Z) (j++[T x.1.t.1 i (Q zI)]) j))):=by
 have⟨d,e⟩:=Mh (l:=n) (s:=(T x.1.t.1 i (Q zI)).2) S;cases acc with
 | nil=>
  cases j with
  | nil=>
   show(iv (.h12 _ _ _ _ _)).val=_;simp only[iv,Q8,zM b,zu b,zi,aI,d,e];rw[zt i um];split
   .rw[zf sw];rfl
   .rfl
  | cons h r=>
   show(iv (.h12b _ _ _ _ _ _)).val=_;simp only[iv,Q8,zM b,zu b,zi,aI,d,e];rw[zt i um];split
   .rw[zf (by simp at g|-;omega)];rfl
   .rfl
 | cons a l=>
  cases j with
  | nil=>
   show(iv (.h12bb _ _ _ _ _ _)).val=_;simp only[iv,Q8,zM b,zu b,zi,aI,d,e];rw[zt i um];split
   .rw[zf sw];rfl
   .rfl
  | cons h r=>
   show(iv (.h12bbb _ _ _ _ _ _ _)).val=_;simp only[iv,Q8,zM b,zu b,zi,aI,d,e];rw[zt i um];split
   .rw[zf (by simp at g|-;omega)];rfl
   .rfl
theorem zgf{h:Nat}{j:dK}(d:h<=1000)(b:N acc<=1000):
  (iv (s50 db n (h:Int) (N x.1.t.1:Int) x acc j)).val=Y (.inl (SA db n ((h+1:Nat):Int) (acc++[((x.1.1,x.1.2.1,x.1.q.1,x.1.r.1,j,x.1.u),x.2)]))):=by
 cases acc with
 | nil=>
  cases j with
  | nil=>
   show(iv (.h12 _ _ _ _ _)).val=_;simp only[iv,Q8,zJ,zA,zm,zn];rw[zt h um,zf sw];rfl
  | cons c r=>
   show(iv (.h12b _ _ _ _ _ _)).val=_;simp only[iv,Q8,zJ,zA,zm,zn];rw[zt h um,zf sw];rfl
 | cons a l=>
  cases j with
  | nil=>
   show(iv (.h12bb _ _ _ _ _ _)).val=_;simp only[iv,Q8,zJ,zA,zm,zn];rw[zt h um,zf (by simp at b|-;omega)];rfl
  | cons c r=>
   show(iv (.h12bbb _ _ _ _ _ _ _)).val=_;simp only[iv,Q8,zJ,zA,zm,zn];rw[zt h um,zf (by simp at b|-;omega)];rfl
theorem zoU{j:Nat}(e:N n<=1000)(d:j<=1000)(c:N acc<=1000)(g:N x.1.t.1<=1000):
  zG iv 1002 (s50 db n (j:Int) ((0:Nat):Int) x acc []) (SA db n ((j+1:Nat):Int) (acc++[jS (aP n) x])):=by
 have b:=zG.all (t:=iv) 1 (λi=>s50 db n (j:Int) (i:Int) x acc ((x.1.t.1.take i).filter λf:cC=>aP n f.2)) (N x.1.t.1) λi a=>zG.of (by
  rw[zgg a e (aV (List.length_filter_le _ _) sg) S];congr 3;rw[aQ a,List.filter_append,bD,aj a];cases h:aP n (x.1.t.1[i]:cC).2<;>simp[h])
 simp only[List.take_zero,List.filter_nil,eF]at b;refine(b.trans (zG.of (zgf d c))).mono S
theorem zbu(B:∀x∈db,il x)(s:∀n∈bY p.2.1 p.q.1,LE.le (α:=Int) 0 (ao db n)):F9 p db=Y (zD db p,Z,()):=by
 have w:(zns p db).val=Y (.inl (SA db (bY p.2.1 p.q.1) ((0:Nat):Int) [])):=by
  simp only[zns,zn,aN,Q8,vj,xK,zi];rfl
 have A:(bY p.2.1 p.q.1).length<=2:=by unfold bY;split<;>simp
 unfold zD;generalize bY p.2.1 p.q.1=h at w A s|-;have o:=zG.all (t:=iv) 1003 (λj=>SA db h (j:Int) ((h.take j).map λn=>jS (aP h) (aU db n))) (N h) λj c=>by
  have d:=s h[j] (bh c);have m:K (ao db h[j]<0)=M:=by simpa using d
  have g:=eu d;have C:=B _ (oR d);have y:zG iv 1 (SA db h (j:Int) ((h.take j).map λn=>jS (aP h) (aU db n))) (s50 db h (j:Int) ((0:Nat):Int) (aU db h[j]) ((h.take j).map λn=>jS (aP h) (aU db n)) []):=zG.of (by
   generalize((h.take j).map λn=>jS (aP h) (aU db n))=acc;cases acc with
   | nil=>
    show(iv (.h4 _ _ _)).val=_;simp only[iv,Q8,zM c,zu c,zi,zP _ _ c,ej,m,g,zA,zm];rfl
   | cons a l=>
    show(iv (.h4b _ _ _ _)).val=_;simp only[iv,Q8,zM c,zu c,zi,zP _ _ c,ej,m,g,zA,zm];rfl)
  have z:=(y.trans (zoU (x:=aU db h[j]) S S sg C.rf)).mono (b:=1003) S;show zG iv 1003 _ (SA db h ((j+1:Nat):Int) ((h.take (j+1)).map λn=>jS (aP h) (aU db n)));rw[aQ c,gm];exact z
 simp only[List.take_zero,oG,eF]at o;generalize F:(h.map λn=>jS (aP h) (aU db n))=acc at o;have e:∃r,zV iv 1 (SA db h (N h:Int) acc) r/\aX r.2 [zl.sl,Sh.bool] r.1=Y (acc,Z,()):=by
  cases acc with
  | nil=>
   refine⟨_,zV.of (by
    show(iv (.h4 _ _ _)).val=_;simp only[iv,Q8,zJ,zA,zm];rfl),rfl⟩
  | cons a l=>
   refine⟨_,zV.of (by
    show(iv (.h4b _ _ _ _)).val=_;simp only[iv,Q8,zJ,zA,zm];rfl),rfl⟩
 have⟨r,D,E⟩:=e;exact zz w (o.ends D) S E
def qD(a b:zo):Bool:=a.1==b.1&&(a.2.1==b.2.1&&(a.q==b.q&&Z))
variable {a e:zo}
theorem jE:qD a e=Z↔a=e:=by have⟨h,x,b⟩:=a;have⟨c,d,g⟩:=e;unfold qD;simp
def rW(a:Int)(v:zo)(row:zr):Bool:=bif qD (T row a.toNat (Q R)) v then v.1!=0 else M
variable {v:zo}{row:zr}
theorem lF:rW c v row=Z↔T row c.toNat (Q R)=v/\v.1≠0:=by unfold rW;rw[<-jE];cases qD (T row c.toNat (Q R)) v<;>simp
theorem OE(u:zo):∀l:zr,(fZ u l).length<=N l+1
 |[]=>by simp[fZ]
 | o::r=>by
  unfold fZ;split
  .have:=OE u r;simp only[fB];omega
  .split<;>simp
theorem Ol:∀(l acc:zr),(l.foldl (λacc u=>if((u:zo).1==0)=Z then acc else fZ u acc) acc).length<=N acc+N l
 |[],acc=>by simp
 | u::r,acc=>by
  rw[List.foldl_cons];refine aV (Ol r _) ?_;split
  .simp
  .have:=OE u acc;simp only[fB];omega
theorem Ny(l:zr):(jk l).length<=N l:=by have:=Ol l [];simpa[jk]using this
def Ky(p:zY):Prop:=N p.r.1.2.1<=1000/\N p.r.1.r.1<=1000000/\N p.r.1.t.1<=1000000/\ot 16 p.r.1.u=Z/\N p.t.1<=1000000
theorem pp:Ky lx:=⟨aK _,aK _,aK _,rfl,aK _⟩
theorem vY(h:c=0->Ky p):Ky (jn c p).2:=by
 unfold jn;split
 .split
  .exact h (by assumption)
  .exact pp
 .exact pp
variable {g:zS}
theorem Sa(db:zT)(x:Qz g):Ky (bu db g).2:=by
 have b:=x.sh.names.1;unfold bu;split;rotate_left
 .exact pp
 split;rotate_left
 .exact pp
 unfold cV;split
 .refine vY λ_=>⟨?_,aK _,aK _,x.cp,?_⟩
  .show(eX _ _).length<=_;unfold eX;rw[cY];omega
  .show(ke _ _).length<=_;unfold ke;rw[cY];omega
 split
 .refine vY λh=>?_
  have a:(aA db g.q.1).2.1.length+(eT db g.p).2.1.length<=9:=by
   unfold gL at h;split at h
   .cases h
   split at h;rotate_left
   .cases h
   split at h
   .cases h
   .omega
  have c:=mD (eT db g.p).q.1 (N (eT db g.p).2.1);refine⟨?_,aK _,aK _,x.cp,?_⟩
  .show(_++ju _ _).length<=_;unfold ju;rw[jK,cY];omega
  .show(nX _ _).length<=_;unfold nX;rw[cY];omega
 split
 .refine vY λ_=>⟨?_,aK _,aK _,x.cp,?_⟩
  .show(AM _ _).length<=_;unfold AM;simp
  .show(ke _ _).length<=_;unfold ke;rw[cY];omega
 .exact pp
def cN(db:zT)(p:zY):ag:=T (zD db p) 0 (Q zl)
structure aw (db:zT) (p:zY):Prop where
 go:Td p (zD db p)
 rel:eb (cN db p)
 plc:uv p (zD db p)=Y (bI p (zD db p),())
 inn:∀row∈(cN db p).2,zK (bI p (zD db p)) (N row)=Z/\N row=N (cN db p).1.2.1
 fnd:∀n∈bY p.2.1 p.q.1,LE.le (α:=Int) 0 (ao db n)
 mig:lu p.1
 col:LE.le (α:=Int) 0 (bI p (zD db p))/\LT.lt (α:=Int) (bI p (zD db p)) (N (cN db p).1.2.1)
theorem zbk(A:∀x∈db,il x)(hp:(bu db g).1=0)(U:Qz g):aw db (bu db g).2:=by
  have⟨hm,D,hb,B,h8,o⟩:=LA hp;have⟨c1,c2,_,c4,c5,H⟩:=Xp A hp U.sh;have hB:=(jQ A).1 hb;have⟨b1,b2,b3,b4,b5⟩:=Sa db U;have m:=kR D;have y:(cV db g).1=0:=by rw[<-o];exact hp
  have⟨f1,f2,f3⟩:=D7 y;rw[o]at c1 c2 c4 c5 H b1 b2 b3 b4 b5|-;have C:∀n∈bY (cV db g).q.1 (cV db g).r.1,LE.le (α:=Int) 0 (ao db n):=by rw[f2,f3];exact B
  have h0:LE.le (α:=Int) 0 (ao db g.q.1):=B _ (by unfold bY;split<;>simp);have hx:cN db (cV db g).2=jS (aP (bY g.q.1 (cU g))) (aU db g.q.1):=by
    unfold cN zD;rw[f2,f3];have:∃r,bY g.q.1 (cU g)=g.q.1::r:=by unfold bY;split<;>exact⟨_,rfl⟩
    have⟨r,e⟩:=this;rw[e];rfl
  have z:eb (cN db (cV db g).2):=by rw[hx];exact(hB.rels _ (jz h0).1).cut
  have l:(cN db (cV db g).2).1.2.1=(aA db g.q.1).2.1:=by rw[hx];rfl
  have⟨m1,m2⟩:=zbd (b:=(cV db g).2) S b2 b3 b4 b5;have s:∀row∈(cN db (cV db g).2).2,N row=N (cN db (cV db g).2).1.2.1:=λrow G=>(cq (z.fits row G)).1
  have c : (LE.le (α:=Int) 0 (bI (cV db g).2 (zD db (cV db g).2))∧LT.lt (α:=Int) (bI (cV db g).2 (zD db (cV db g).2)) (Io (cN db (cV db g).2).1.2.1))∧((cV db g).2.1≠dp→(cV db g).2.1≠fD→0 < Io (cV db g).u.1):=by
    unfold bI;rw[f1];rcases hm with j|j|j
    · rw[zf j]
      refine⟨?_,λh=>zB j h⟩;have⟨k1,_⟩:=fX z.may;exact k1
    · have E:g.1≠dp:=by rw[j];decide
      rw[zh E,zf j];refine⟨?_,λ_ h=>zB j h⟩
      have e:(cV db g)=jn (gL (aA db g.q.1) (eT db g.p) g.u.1 g.p)
          (g.1,g.q.1,g.p,(g.2.1,(aA db g.q.1).2.1++ju (eT db g.p) (N (eT db g.p).2.1),(aA db g.q.1).q.1,[],[],g.x.1),
            nX (eT db g.p).q.1 (N (eT db g.p).2.1),ab (aA db g.q.1) g.u.1):=by
        unfold cV;rw[zh (by simpa using E),zf (by simp[j])]
      have e0:=y;rw[e]at e0;have⟨w,P⟩:=jo e0;have d:¬LT.lt (α:=Int) (ab (aA db g.q.1) g.u.1) 0:=by
        intro h4;unfold gL at w;rw[zf h4]at w;cases w
      have h6:(cV db g).v=ab (aA db g.q.1) g.u.1:=by rw[e,P]
      show LE.le (α:=Int) 0 (cV db g).v/\LT.lt (α:=Int) (cV db g).v _;rw[h6,l];exact⟨S,(iS d).2⟩
    · have E:g.1≠dp:=by rw[j];decide
      have n2:g.1≠fD:=by rw[j];decide
      rw[zh E,zh n2];have e:(cV db g)=jn (rS (aA db g.q.1) g.r.1) (g.1,g.q.1,g.p,(g.2.1,AM (aA db g.q.1) g.r.1,0,[],[],g.x.1),ke (aA db g.q.1) g.r.1,0):=by
        unfold cV;rw[zh (by simpa using E),zh (by simpa using n2),zf (by simp[j])]
      have e0:=y;rw[e]at e0;have⟨w,P⟩:=jo e0;have h7:gV (aA db g.q.1) g.r.1=0:=by
        unfold rS at w;split at w
        · assumption
        · exact w
      have d:=se h7;have h3:(cV db g).u.1=ke (aA db g.q.1) g.r.1:=by rw[e,P]
      have h2:=kJ m j;rw[h3,l]
      match h5:g.r.1,h2 with
      | [a,b],_=>
        rw[h5]at d;have ha:=d a sw
        exact ⟨⟨by have:¬ LT.lt (α:=Int) (ab (aA db g.q.1) a) 0:=ha
                   show LE.le (α:=Int) 0 (ab (aA db g.q.1) a);omega,(iS ha).2⟩,λ_ _=>by simp[ke]⟩
  have F:=lL H;refine⟨⟨c2,H,by rw[c1],by rw[c4];exact U,c5,b1,m1,m2.2 rfl⟩,z,Xy F.1 c.2,λrow G=>⟨?_,s row G⟩,C,by rw[f1];exact hm,c.1⟩;rw[s row G];unfold zK;rw[aO];have h1:=c.1.1;have h2:=c.1.2;exact⟨zC h1,zC S⟩
section
variable {db:List (L zl)} {p:L zZ}
theorem aw.pc(h:aw db p):lM p (zD db p)=Z/\dt p (zD db p)=bI p (zD db p):=
 ⟨by unfold lM;rw[h.plc];rfl,by unfold dt;rw[h.plc];rfl⟩
theorem aw.at_mem(h:aw db p){row:zr}(a:row∈(cN db p).2):T row (W (bI p (zD db p))) (Q R)∈row:=by have x:=(h.inn row a).1;simp only[zK,aO,bc]at x;exact Fj _ _ S
theorem aw.may(h:aw db p){a:zo}(b:a∈nh p (zD db p)):bg a=Z:=by obtain⟨row,x,rfl⟩:=bt.1 b;rw[h.pc.2];exact(cq (h.rel.fits row x)).2.1 _ (h.at_mem x)
theorem aw.all(h:aw db p):Kk p (zD db p)=Z:=by unfold Kk;simp only[aO,bc,ep];refine⟨h.pc.1,zu (i:=0) (lL h.go.two).1,aV h.rel.few S,λrow x=>⟨?_,h.may (bt.2 ⟨row,x,rfl⟩)⟩⟩;rw[h.pc.2];exact(h.inn row x).1
theorem aw.len(h:aw db p){row:zr}(x:row∈(cN db p).2):N row<=8:=by rw[(h.inn row x).2];exact(fX h.rel.may).r.1
theorem aw.few(_:aw db p):(cD p (zD db p)).length<=(cN db p).2.length:=by have:=Ny (nh p (zD db p));have e:(nh p (zD db p)).length=(cN db p).2.length:=cY _;rw[e]at this;exact this
theorem aw.keys(h:aw db p)(b:p.1=dp):(nh p (zD db p)).Nodup/\∀x∈nh p (zD db p),x.1≠0:=by
 have d:dt p (zD db p)=(cN db p).1.q.1:=by
  rw[h.pc.2];unfold bI;rw[zf b];rfl
 have e:nh p (zD db p)=(cN db p).2.map (zO (cN db p).1.q.1):=by
  unfold nh;rw[d];rfl
 rw[e];refine⟨T0 h.rel.pw,λx j=>?_⟩;obtain⟨row,a,rfl⟩:=bt.1 j;have g:=(jD _).1 h.rel.may;have c:=h.rel.keys row a;simp only[zK,aO,bc]at c;exact(cq (h.rel.fits row a)).q _ S g.nn
theorem aw.is(h:aw db p)(v:zo):v∈cD p (zD db p)↔(cN db p).2.filter (rW (bI p (zD db p)) v)≠[]:=by
 unfold cD;rw[(ta λx j=>h.may j).2];show _↔¬(cN db p).2.filter (rW (bI p (zD db p)) v)=[];rw[List.filter_eq_nil_iff];constructor
 .rintro⟨j,b⟩ d;have⟨row,a,e⟩:=bt.1 j;rw[h.pc.2]at e;exact d row a (lF.2 ⟨e,b⟩)
 .intro d;have:∃row∈(cN db p).2,rW (bI p (zD db p)) v row=Z:=by
   refine kF λg=>d λrow a c=>g ⟨row,a,c⟩
  have⟨row,a,c⟩:=this;have⟨e,b⟩:=lF.1 c;refine⟨bt.2 ⟨row,a,?_⟩,b⟩;show T row (W (dt p (zD db p))) (Q R)=v;rw[h.pc.2];exact e
end
def RgV(v:zo):Prop:=LE.le (α:=Int) (-9223372036854775808) v.2.1/\LE.le (α:=Int) v.2.1 9223372036854775807
mutual
def XD:zg->Prop
 |.mk _ v _ l=>RgV v/\Kx l
def Kx:List zg->Prop
 |[]=>True
 |e::r=>XD e/\Kx r
end
theorem Kx.mem:∀{l:List zg},Kx l->∀e∈l,XD e
 |[],_,e,h=>by simp at h
 | x::r,h,e,a=>by
  rw[Kx]at h;rcases ce.1 a with rfl|a
  .exact h.1
  .exact Kx.mem h.2 e a
theorem lB.app:∀{a b:List zg},lB a->lB b->lB (a++b)
 |[],_,_,h=>h
 | x::r,b,h,hb=>by
  rw[lB]at h;rw[List.cons_append,lB];exact⟨h.1,h.2.app hb⟩
theorem Qn(k:Nat)(s:zN)(h:k<=1000):(Qg (W (k:Int)-W 0) (List.drop (W 0) s)).length<=1000000:=by simp;omega
theorem zaJ{n k:Nat}(h:¬K ((n:Int)>(k:Int))=Z)(x:k<=1000):n<=1000000:=by
 have:¬(n:Int)>(k:Int):=by simpa using h
 omega
theorem lB.of:∀{l:List zg},(∀x∈l,vB x)->lB l
 |[],_=>by rw[lB];trivial
 |x::r,h=>by rw[lB];exact⟨h x sw,lB.of λy a=>h y (by simp[a])⟩
theorem CW{e:zg}(h:XD e):vB (iN e):=by
 have⟨r,m,d,g⟩:=K9 (P:=λ_ e r=>XD e->vB r) (λa e o t s l j _ z w b=>by
  have⟨B,v,C,A⟩:=e;rw[XD]at b;rw[vB];exact⟨⟨b.1.1,b.1.2,by show N t<=_;omega⟩,S,lB.of λy q=>by
   have⟨x,n,c⟩:=j y q;exact c (b.2.mem x n)⟩) 16 e 14 80 S S S
 unfold iN;rw[zg.eta,show uE 16 e 14 80=(r,m) by unfold uE;rw[d];rfl];exact g h
theorem G2(s:zN):(kj s).length<=1000000:=by
 unfold kj;split
 .exact Qn 20 s S
 .exact zaJ (k:=20) (by assumption) S
theorem zap(l:aZ):(kL l).length<=9/\∀c∈kL l,N c.1<=1000000:=by refine⟨by show((Qg 9 l).map _).length<=9;rw[cY,oC];omega,λc h=>?_⟩;obtain⟨x,_,rfl⟩:=bt.1 h;exact G2 x.1
variable {t:ap}
theorem zgF(h:XD t.u):DX (Hn t):=by
 have x:=zap t.2.1;refine⟨G2 _,x.2,aV x.1 S,?_,?_,λf a=>?_,CW h⟩
 .show(Qg 10 _).length<=_;rw[oC];omega
 .show((Qg 10 _).map _).length<=_;rw[cY,oC];omega
 .obtain⟨g,_,rfl⟩:=bt.1 a;exact G2 _
theorem zgL(h:RgV v):kX (H3 v):=by
 unfold H3;split
 .exact⟨h.1,h.2,Qn 60 v.q S⟩
 .exact⟨h.1,h.2,zaJ (k:=60) (by assumption) S⟩
variable {l:zr}
theorem OP(h:∀v∈l,RgV v):∀v∈eH l,kX v:=λv a=>by
 obtain⟨x,b,rfl⟩:=bt.1 a;exact zgL (h x (List.mem_of_mem_take b))
structure RgR (x:ag):Prop where
 chk:XD x.1.u
 vals:∀r∈x.2,∀v∈(r:zr),RgV v
theorem zan(h:RgR x):Ii (Fx x):=by
 have⟨rows,b,c⟩:=OO x;have d:Fx x=(Hn x.1,rows):=by unfold Fx;rw[c];rfl
 rw[d];refine⟨zgF h.chk,by show N rows<=1000;have:=b.1;omega,λr e v g=>?_⟩;obtain⟨j,a,rfl⟩:=b.2 r e;exact OP (h.vals j a) v g
structure RgS (s:zS):Prop where
 chk:XD s.x.1
 whr:XD s.s.1
 row:∀v∈s.y.1,RgV v
 sets:∀x∈s.z.1,XD (x:L jb).2
theorem zam(h:RgS g):∃s:zS,AW g=Y (s,())/\Qz s/\yX s:=by
 have⟨s,c,b,a⟩:=RV g;refine⟨s,c,b,b.sh,?_,?_,b.cp,?_,?_,?_⟩
 .rw[a.chk];exact CW h.chk
 .rw[a.whr];exact CW h.whr
 .rw[a.whr];exact KQ _
 .rw[a.row];exact OP h.row
 .intro x e;have⟨y,j,d⟩:=a.sets x e;rw[d];exact⟨CW (h.sets y j),KQ _⟩
theorem zcp{o:Bool}(h:F9 p db=Y (src,o,())):C3 p db=Y (p,src,o,()):=by
 have c:Sc p db=Z:=by unfold Sc;rw[h];rfl
 have x:zbt p db=(src,o):=by unfold zbt;rw[h];rfl
 have e:p=(p.1,p.2.1,p.q.1,(p.r.1.1,p.r.1.2.1,p.r.1.q.1,p.r.1.r.1,p.r.1.t.1,zw p.r.1.u),p.t):=by rw[zn]
 refine(zQ (i:=zni p db) (t:=t0) (n:=100000000) (outs:=[zZ,zl.sl,Sh.bool]) (by
  simp only[zni,zn,aN,Q8,c,x,zi];rfl) (y:=((p.1,p.2.1,p.q.1,(p.r.1.1,p.r.1.2.1,p.r.1.q.1,p.r.1.r.1,p.r.1.t.1,zw p.r.1.u),p.t),src,o,())) rfl).trans ?_
 rw[<-e]
theorem aw.uall(h:aw db p):M2 p (zD db p)=Y (cD p (zD db p),0,()):=by have⟨c,x⟩:=xH h.go;refine zQ (r:=(tup [O R (cD p (zD db p)),J 0],[])) ?_ rfl;simp only[ztI,zn,aN,Q8,c,x,h.all,gj,zA,zi,zm]
theorem zgN(v:zo)(q:N l<=1000000):zcy l v=Y (al (qD v) l 0,()):=by
 have g:(zt9 l v).val=Y (.inl (.h2 l (N l:Int) ((0:Nat):Int) (v,()))):=rfl
 have a:∀k,k<=N l->(∀x∈l.take k,qD v x=M)->zG Xu (k*1) (.h2 l (N l:Int) ((0:Nat):Int) (v,())) (.h2 l (N l:Int) (k:Int) (v,())):=λk d m=>
  zG.all (t:=Xu) 1 (λi=>.h2 l (N l:Int) (i:Int) (v,())) k λi o=>zG.of (by
   have h:i<N l:=by omega
   have b:qD v l[i]=M:=m _ (List.mem_take_iff_getElem.2 ⟨i,S,rfl⟩);unfold qD at b;simp only[Xu,Q8,zM h,zu h,zi,zP _ _ h,b,zA,zm];rw[zt i um])
 rcases ei (qD v) l 0 with⟨e,c⟩|⟨k,d,e,c,j⟩
 .rw[e];refine zz g ((a (N l) (zR _) (λx n=>c x (List.mem_of_mem_take n))).ends (zV.of (r:=(.int .i64 (-1),[])) ?_)) S rfl;simp only[Xu,Q8,zJ,zA,zm]
 .rw[e];refine zz g ((a k S j).ends (zV.of (r:=(.int .i64 (k:Int),[])) ?_)) S (by rw[eI];rfl);unfold qD at c;simp only[Xu,Q8,zM d,zu d,zi,zP _ _ d,c]
theorem zgM(v:zo)(b:N l<=1000000):Qq l v=Z/\H4 l v=l.any (qD v):=by
 have h:=zgN v b;have c:zcx l v=Z:=by unfold zcx;rw[h];rfl
 have x:zpc l v=al (qD v) l 0:=by unfold zpc;rw[h];rfl
 have a:K (GE.ge (α:=Int) (al (qD v) l 0) 0)=l.any (qD v):=by rw[oE,AR,List.any_eq_true]
 have:zcw l v=Y (l.any (qD v),()):=by
  refine zQ (r:=(.bool (l.any (qD v)),[])) ?_ rfl;simp only[zt2,Q8,c,x,zi];rw[a]
 exact⟨by unfold Qq;rw[this];rfl,by unfold H4;rw[this];rfl⟩
theorem PN(v:zo)(h:dI x.1=Z):Ml x v=Z/\UN x v=al (λr=>bG r x.1.2.2.1 v) x.2 0:=by
 have:Mm x v=Y (al (λr=>bG r x.1.2.2.1 v) x.2 0,()):=by
  refine zQ (r:=(.int .i64 (al (λr=>bG r x.1.2.2.1 v) x.2 0),[])) ?_ rfl;simp only[zt1,zn,aN,Q8,h,bW,zA,zm]
 exact⟨by unfold Ml;rw[this];rfl,by unfold UN;rw[this];rfl⟩
theorem tt(h:zK c (N row)=Z):bG row c v=Z↔zO c row=v:=by simp only[zK,aO,bc]at h;unfold bG;rw[zC (show GE.ge (α:=Int) c 0 from h.1),zC (show LT.lt (α:=Int) c (N row:Int)from h.2),aG,aG];exact jE
theorem eb.find(h:eb x)(g:row∈x.2):
  ∃(k:Nat)(b:k<N x.2),al (λr=>bG r x.1.2.2.1 (zO x.1.2.2.1 row)) x.2 0=(k:Int)/\x.2[k]=row:=by
 rcases ei (λr=>bG r x.1.2.2.1 (zO x.1.2.2.1 row)) x.2 0 with⟨_,d⟩|⟨k,b,n,d,_⟩
 .have:=d row g;rw[(tt (h.keys row g)).2 rfl]at this;cases this
 .refine⟨k,b,by rw[n,eI],?_⟩;have e:=(tt (h.keys _ (bh b))).1 d;obtain⟨j,l,rfl⟩:=fN g;by_cases c:k=j
  .subst c;rfl
  .have m:=List.pairwise_iff_getElem.1 (List.pairwise_map.1 (T0 h.pw));rcases Nat.lt_or_gt_of_ne c with a|a
   .exact zB e (m k j b l a)
   .exact zB e.symm (m j k l b a)
section
variable {db:List (L zl)} {p:L zZ}
theorem aw.has(h:aw db p){row:zr}(b:row∈(cN db p).2)(x:(zO (bI p (zD db p)) row).1≠0):zO (bI p (zD db p)) row∈cD p (zD db p):=by
 refine(h.is _).2 λa=>?_
 have:=List.filter_eq_nil_iff.1 a row b;exact this (lF.2 ⟨rfl,x⟩)
theorem aw.hasC(h:aw db p)(v:zo):Qq (cD p (zD db p)) v=Z/\(H4 (cD p (zD db p)) v=Z↔v∈cD p (zD db p)):=by
 have g:=h.few;have j:=h.rel.few;obtain⟨a,b⟩:=zgM (l:=cD p (zD db p)) v S;refine⟨a,?_⟩;rw[b,List.any_eq_true];constructor
 .rintro⟨x,d,e⟩;rw[jE.1 e];exact d
 .intro c;exact⟨v,c,jE.2 rfl⟩
def HT(db:zT)(p:zY)(v:zo):zo×Int:=
 if p.1=fD then
  let a:=al (λr=>bG r (cN db p).1.2.2.1 v) (cN db p).2 0
  if LT.lt (α:=Int) a 0 then((0,0,[]),6)else
   let u:=zO p.t.2 (T (cN db p).2 a.toNat (Q ze.sl))
   if H4 (cD p (zD db p)) u=Z then(u,0)else((0,0,[]),6)
 else if H4 (cD p (zD db p)) v=Z then(v,0)else((0,0,[]),6)
theorem aw.key(h:aw db p)(v:zo):zwR p (zD db p) v=Y ((HT db p v).1,(HT db p v).2,()):=by
 obtain⟨n,o⟩:=xH h.go;have b:zK 0 (zD db p).length=Z:=zu (i:=0) (lL h.go.two).1;have d:T (zD db p) (W 0) (Q zl)=cN db p:=rfl;obtain⟨y,w⟩:=PN (x:=cN db p) v h.rel.may;by_cases m:p.1=fD
 .have l:(p.1==fD)=Z:=by simpa using m
  have z:bI p (zD db p)=p.t.2:=by
   unfold bI;rw[zh (by rw[m];decide),zf m]
  unfold HT;rw[zf m];by_cases s:LT.lt (α:=Int) (al (λr=>bG r (cN db p).1.2.2.1 v) (cN db p).2 0) 0
  .simp only[zf s];refine zQ (r:=(tup [agg [J 0,J 0,X []],J 6],[])) ?_ rfl;simp only[WB,zn,aN,Q8,n,o,l,b,d,y,w,gj,zA,zi,zm];rw[zf (zC s)]
  .simp only[zh s];rcases gT (λr=>bG r (cN db p).1.2.2.1 v) (cN db p).2 0 with e|⟨B,C⟩
   .rw[e]at s;omega
   .obtain⟨k,E⟩:∃k:Nat,al (λr=>bG r (cN db p).1.2.2.1 v) (cN db p).2 0=(k:Int):=⟨_,(Int.toNat_of_nonneg B).symm⟩;rw[E]at s C w|-;have a:k<(cN db p).2.length:=by omega
    have g:=(h.inn _ (bh a)).1;rw[z]at g;obtain⟨q,D⟩:=h.hasC (zO p.t.2 (cN db p).2[k]);have A:K ((k:Int)<0)=M:=by simp
    rw[zP _ _ a];by_cases c:H4 (cD p (zD db p)) (zO p.t.2 (cN db p).2[k])=Z
    .rw[zf c];refine zQ (r:=(tup [agg [J (zO p.t.2 (cN db p).2[k]).1,J (zO p.t.2 (cN db p).2[k]).2.1,X (zO p.t.2 (cN db p).2[k]).2.2],J 0],[])) ?_ rfl;simp only[WB,zn,aN,Q8,n,o,l,b,d,y,w,A,zu a,zP _ _ a,g,h.all,q,c,gj,bW,zA,zi,zm]
    .rw[zh c];have j:=Bool.eq_false_iff.2 c;refine zQ (r:=(tup [agg [J 0,J 0,X []],J 6],[])) ?_ rfl;simp only[WB,zn,aN,Q8,n,o,l,b,d,y,w,A,zu a,zP _ _ a,g,h.all,q,j,gj,dd,zA,zi,zm]
 .have l:(p.1==fD)=M:=by simpa using m
  unfold HT;rw[zh m];obtain⟨q,D⟩:=h.hasC v;by_cases c:H4 (cD p (zD db p)) v=Z
  .rw[zf c];refine zQ (r:=(tup [agg [J v.1,J v.2.1,X v.2.2],J 0],[])) ?_ rfl;simp only[WB,zn,aN,Q8,n,o,l,h.all,q,c,gj,bW,zA,zi,zm]
  .rw[zh c];have j:=Bool.eq_false_iff.2 c;refine zQ (r:=(tup [agg [J 0,J 0,X []],J 6],[])) ?_ rfl;simp only[WB,zn,aN,Q8,n,o,l,h.all,q,j,gj,dd,zA,zi,zm]
theorem aw.mine(h:aw db p)(m:p.1≠na){row:zr}(c:row∈(cN db p).2)(j:(zO (bI p (zD db p)) row).1≠0):
  HT db p (zO (cN db p).1.2.2.1 row)=(zO (bI p (zD db p)) row,0):=by
 have b:=h.has c j;unfold HT;by_cases a:p.1=fD
 .have x:bI p (zD db p)=p.t.2:=by
   unfold bI;rw[zh (by rw[a];decide),zf a]
  rw[zf a];obtain⟨k,n,d,g⟩:=h.rel.find c;simp only[d];rw[zh S,zP _ _ n,g,<-x,zf ((h.hasC _).2.2 b)]
 .rw[zh a];have l:p.1=dp:=by
   rcases h.mig with e|e|e
   .exact e
   .exact zB e a
   .exact zB e m
  have x:bI p (zD db p)=(cN db p).1.2.2.1:=by
   unfold bI;rw[zf l];rfl
  rw[x]at b|-;rw[zf ((h.hasC _).2.2 b)]
end
def FD(a b:zo):Bool:=!Q0 (GT.gt (α:=Int) (an a b) 0)
theorem JO(a:zo):an a a=(0:Int):=by unfold an;show HW [rF (ah a).1 (ah a).1,kH (ah a).2.1 (ah a).2.1,oI (ah a).q (ah a).q]=(0:Int);rw[<-Lk,zf sw]
theorem ku(b:bg a=Z)(c:bg e=Z):FD a e=Z↔(qE a e\/a=e):=by
 unfold FD qE;simp only[uP,ed];constructor
 .intro h;by_cases x:an a e=(0:Int)
  .exact .inr (wk b c x)
  .exact .inl (Int.lt_iff_le_and_ne.2 ⟨Int.not_lt.1 h,x⟩)
 .rintro(h|rfl)
  .exact Int.not_lt.2 (Int.le_of_lt h)
  .rw[JO];exact Int.lt_irrefl _
theorem A0{c:zo}(x:bg a=Z)(b:bg e=Z)(d:bg c=Z)(h:FD a e=Z)(g:FD e c=Z):FD a c=Z:=by
 rw[ku x b]at h;rw[ku b d]at g;rw[ku x d];rcases h with h|rfl
 .rcases g with g|rfl
  .exact .inl (em h g)
  .exact .inl h
 .exact g
theorem AZ(b:bg a=Z)(c:bg e=Z)(h:¬FD a e=Z):FD e a=Z:=by
 rw[ku b c]at h;rw[ku c b];simp only[not_or]at h;rcases mc b c h.1 with x|x
 .exact zB x h.2
 .exact .inl x
section
variable {α:Type} (k:α->L R)
def CE(row:α)(l:List α):List α:=l.filter (λx=>FD (k x) (k row))++row::l.filter (λx=>!FD (k x) (k row))
def mA(l:List α):List α:=l.foldl (λacc row=>CE k row acc) []
def qI(l:List α):Prop:=l.Pairwise λa b=>FD (k a) (k b)=Z
variable {k}
theorem YG{row:α}:∀{l:List α},(∀x∈row::l,bg (k x)=Z)->qI k l->∃m,m<=N l/\l.filter (λx=>FD (k x) (k row))=l.take m/\l.filter (λx=>!FD (k x) (k row))=l.drop m/\
   (∀i(h:i<N l),i<m->FD (k l[i]) (k row)=Z)/\(∀i(h:i<N l),m<=i->FD (k l[i]) (k row)=M)
 |[],_,_=>⟨0,zR _,rfl,rfl,λi h=>zB h (Nat.not_lt_zero i),λi h=>zB h (Nat.not_lt_zero i)⟩
 | a::r,hm,hr=>by
  have⟨g,j⟩:=List.pairwise_cons.1 hr;cases d:FD (k a) (k row)with
  | true=>
   have⟨m,q,o,s,w,y⟩:=YG (row:=row) (l:=r) (λx b=>hm x (by simp at b|-;rcases b with h|h<;>simp[h])) j;refine⟨m+1,by simpa using q,by simp[d,o],by simp[d,s],λi h e=>?_,λi h e=>?_⟩
   .cases i with
    |zero=>exact d
    |succ i=>exact w i (by simpa using h) S
   .cases i with
    |zero=>omega
    |succ i=>exact y i (by simpa using h) S
  | false=>
   have c:∀x∈r,FD (k x) (k row)=M:=λx b=>by
    cases n:FD (k x) (k row)with
    |false=>rfl
    |true=>rw[A0 (hm a sw) (hm x (by simp[b])) (hm row sw) (g x b) n]at d;cases d
   refine⟨0,sw,?_,?_,λi h e=>by omega,λi h _=>?_⟩
   .rw[List.take_zero,List.filter_eq_nil_iff];intro x b;rcases ce.1 b with rfl|b
    .rw[d];simp
    .rw[c x b];simp
   .rw[List.drop_zero,List.filter_eq_self];intro x b;rcases ce.1 b with rfl|b
    .rw[d];rfl
    .rw[c x b];rfl
   .cases i with
    |zero=>exact d
    |succ i=>exact c _ (bh _)
theorem Jw(row:α)(l:List α):(CE k row l).Perm (row::l):=by unfold CE;refine(List.perm_middle).trans (List.Perm.cons _ ?_);exact List.filter_append_perm _ _
theorem oS(l:List α):(mA k l).Perm l:=by
 have x:∀(l acc:List α),(l.foldl (λacc row=>CE k row acc) acc).Perm (l++acc):=by
  intro l
  induction l with
  |nil=>intro acc;exact List.Perm.refl _
  |cons a r b=>intro acc;exact(b _).trans ((List.Perm.append_left r (Jw a acc)).trans List.perm_middle)
 have h:=x l [];rw[rx]at h;exact h
theorem Jy{row:α}{l:List α}(a:∀x∈row::l,bg (k x)=Z)(h:qI k l):qI k (CE k row l):=by
 unfold CE qI;rw[List.pairwise_append,List.pairwise_cons];refine⟨h.filter _,⟨λx d=>?_,h.filter _⟩,λx d y e=>?_⟩
 .have⟨c,b⟩:=List.mem_filter.1 d;exact AZ (a x (by simp[c])) (a row sw) (by simpa using b)
 .have⟨c,b⟩:=List.mem_filter.1 d;rcases ce.1 e with rfl|e
  .exact b
  .have⟨g,j⟩:=List.mem_filter.1 e;exact A0 (a x (by simp[c])) (a row sw) (a y (by simp[g])) b (AZ (a y (by simp[g])) (a row sw) (by simpa using j))
end
def rr(k:Int)(r:zr):Prop:=zK k (N r)=Z/\kX (zO k r)/\bg (zO k r)=Z
section
variable {t:L ae} {rows acc:List (List (L R))} {i:Nat} {z1:zq nV}
theorem wa{α:Type}(l:List α)(d:α){i:Nat}(h:i<N l):l.getD i d=l[i]:=zP l d h
theorem YK(l:DX t)(e:dI t=Z)(n:i<N rows)(g:rr t.q.1 rows[i])(s:∀r∈acc,rr t.q.1 r)(A:N acc<=1000000){m:Nat}
  (w:∀j(h:j<N acc),m<=j->FD (zO t.q.1 acc[j]) (zO t.q.1 rows[i])=M):
  ∀d,m+d<=N acc->zG CI d (.h6 (i:Int) ((m+d:Nat):Int) ((t,rows),()) z1 (t,acc,())) (.h6 (i:Int) (m:Int) ((t,rows),()) z1 (t,acc,()))
 |0,_=>zG.refl _
 | d+1,C=>by
  refine zG.trans (b:=d) (a:=1) ?_ (YK l e n g s A w d S);have c:m+d<N acc:=by omega
  have⟨y,z,D⟩:=s _ (bh c);have x:=w (m+d) c S;unfold FD at x;rw[Bool.not_eq_false']at x;have o:Γ Δ (((m+(d+1):Nat):Int)-1)=((m+d:Nat):Int):=gS (m+d) um;have B:K (((m+(d+1):Nat):Int)>0)=Z:=by simp;omega
  refine zG.of ?_
  simp only[CI,Q8,zn,aN,B,o,aG,zu c,zu n,wa _ _ c,wa _ _ n,aI,zC c,pi l e y,pi l e g.1,
   ue l e y,ue l e g.1,mJ z.q g.2.1.q,o9 z.q g.2.1.q,x,Bool.and_true,zi]
theorem zo5(g:DX t)(d:dI t=Z)(a:i<N rows)(hn:N rows<=1000000)(b:rr t.q.1 rows[i])(j:∀r∈acc,rr t.q.1 r)(hl:N acc<=1000000)(n:qI (zO t.q.1) acc):
  zG CI (N acc+2) (.h3 (i:Int) ((t,rows),()) z1 (t,acc,())) (.h3 ((i+1:Nat):Int) ((t,rows),()) z1 (t,CE (zO t.q.1) rows[i] acc,())):=by
 have⟨m,F,m2,m3,m4,m5⟩:=YG (k:=zO t.q.1) (row:=rows[i]) (l:=acc) (λx o=>by
  rcases ce.1 o with rfl|o
  .exact b.q
  .exact(j x o).q) n
 have H:zG CI 1 (.h3 (i:Int) ((t,rows),()) z1 (t,acc,())) (.h6 (i:Int) ((m+(N acc-m):Nat):Int) ((t,rows),()) z1 (t,acc,())):=zG.of (by
  rw[Nat.add_sub_cancel' F];simp only[CI,Q8,zM a,zi])
 have P:=YK (z1:=z1) g d a b j hl m5 (N acc-m) S;have U:zG CI 1 (.h6 (i:Int) (m:Int) ((t,rows),()) z1 (t,acc,())) (.h3 ((i+1:Nat):Int) ((t,rows),()) z1 (t,CE (zO t.q.1) rows[i] acc,())):=zG.of (by
  have s:K (0<=(m:Int))=Z:=by simp
  have w:K ((m:Int)<=(N acc:Int))=Z:=by simpa using F
  have y:K ((N acc:Int)<=(N acc:Int))=Z:=by simp
  have z:Qg (m-W 0) (List.drop (W 0) acc)=acc.take m:=by simp
  have A:Qg (N acc-m) (List.drop m acc)=acc.drop m:=DZ sw;have G:=zt i um;have l1:K ((acc.take m).length<=1073741824)=Z:=by simp;omega
  have D:K ((acc.take m).length+[rows[i]].length<=1073741824)=Z:=by simp;omega
  have E:K ((acc.take m++[rows[i]]).length+(acc.drop m).length<=1073741824)=Z:=by simp;omega
  have e:CE (zO t.q.1) rows[i] acc=acc.take m++[rows[i]]++acc.drop m:=by unfold CE;rw[m2,m3];simp
  rw[e];cases m with
  | zero=>
   simp only[CI,Q8,zn,aN,show K (((0:Nat):Int)>0)=M from rfl,aJ,zu a,wa _ _ a,aI,z,A,l1,D,E,s,w,y,G,Bool.and_true,zA,zi,zm];rfl
  | succ m=>
   have c:m<N acc:=by omega
   have⟨B,C,k3⟩:=j _ (bh c);have h:=m4 m c S;unfold FD at h;rw[uP]at h;have hp:K (((m+1:Nat):Int)>0)=Z:=zC S;have w1:=gS m um
   simp only[CI,Q8,zn,aN,hp,w1,aG,zu a,zu c,wa _ _ a,wa _ _ c,aI,zC c,pi g d B,pi g d b.1,ue g d B,ue g d b.1,mJ C.q b.2.1.q,o9 C.q b.2.1.q,h,
    z,A,l1,D,E,s,w,y,G,Bool.and_true,zA,zi,zm]
   rfl)
 exact((H.trans P).trans U).mono S
theorem Xg(w:DX t)(n:rows≠[]->dI t=Z)(o:N rows<=1000)(j:∀r∈rows,rr t.q.1 r):Ds (t,rows)=Y ((t,mA (zO t.q.1) rows),()):=by
 have s:(ztY (t,rows)).val=Y (.inl (.h3 ((0:Nat):Int) ((t,rows),()) ([],0,[],0,0,[],[],()) (t,[],()))):=rfl;have b:∀i,i<=N rows->(mA (zO t.q.1) (rows.take i)).length=i:=λi d=>by rw[(oS _).length_eq];simp;omega
 have c:∀i,∀r∈mA (zO t.q.1) (rows.take i),r∈rows:=λi r h=>List.mem_of_mem_take ((oS _).mem_iff.1 h)
 have a:∀i(h:i<N rows),mA (zO t.q.1) (rows.take (i+1))=CE (zO t.q.1) rows[i] (mA (zO t.q.1) (rows.take i)):=λi h=>by
  unfold mA;rw[aQ h,List.foldl_append];rfl
 have e:∀i,i<=N rows->qI (zO t.q.1) (mA (zO t.q.1) (rows.take i)):=by
  intro i
  induction i with
  |zero=>intro _;exact .nil
  | succ i y=>
   intro d;rw[a i d];refine Jy (λx l=>?_) (y S);rcases ce.1 l with rfl|l
   .exact(j _ (bh d)).q
   .exact(j x (c i x l)).q
 have m:=zG.all (t:=CI) 1002 (λi=>.h3 (i:Int) ((t,rows),()) ([],0,[],0,0,[],[],()) (t,mA (zO t.q.1) (rows.take i),())) (N rows) λi d=>by
  rw[a i d];exact(zo5 w (n (List.ne_nil_of_length_pos S)) d S (j _ (bh d)) (λr h=>j r (c i r h)) (by rw[b i S];omega) (e i S)).mono (by rw[b i S];omega)
 simp only[eF]at m;have g:∃r,zV CI 1 (.h3 (N rows:Int) ((t,rows),()) ([],0,[],0,0,[],[],()) (t,mA (zO t.q.1) rows,())) r/\aX r.2 [zl] r.1=Y ((t,mA (zO t.q.1) rows),()):=by
  refine⟨_,zV.of (by
   simp only[CI,Q8,zJ,zA,zm];rfl),?_⟩
  show Y (((t.1,t.2.1,t.q.1,t.r.1,t.t.1,zw t.u),mA (zO t.q.1) rows),())=_;rw[zn]
 have⟨r,z,A⟩:=g;have:N rows*1002<=1000*1002:=fM _ o;exact zz s (m.ends z) S A
theorem zbE(b:DX t)(h:rows≠[]->dI t=Z)(x:N rows<=1000)(a:∀r∈rows,rr t.q.1 r):L7 (t,rows)=Z/\Sp (t,rows)=(t,mA (zO t.q.1) rows):=by have:=Xg b h x a;exact⟨by unfold L7;rw[this];rfl,by unfold Sp;rw[this];rfl⟩
end
structure jG (db:zT) (p:zY):Prop where
 wf:DX p.r.1
 fr:Ii (cN db p)
 few:N p.t.1<=1000
 copy:p.1=dp->(∀c∈p.t.1,zK c (cN db p).1.2.1.length=Z)/\∃(k:Nat)(h:k<N p.t.1),p.r.1.q.1=(k:Int)/\p.t.1[k]=(cN db p).1.q.1
 join:p.1=fD->p.r.1.q.1=(cN db p).1.q.1/\∃y:ag,zD db p=[cN db p,y]/\eb y/\Ii y/\(∀c∈p.t.1,zK c (N y.1.2.1)=Z)/\∀row∈(cN db p).2,(zO p.u row).1≠0->g7 y y.1.q.1 (zO p.u row)=Z
 group:p.1=na->p.r.1.q.1=0/\∃a b,p.t.1=[a,b]/\zK a (cN db p).1.2.1.length=Z/\zK b (cN db p).1.2.1.length=Z
theorem Ii.cut{q:zN->Bool}(h:Ii x):Ii (jS q x):=
 ⟨⟨h.t.name,h.t.cols,h.t.ncols,h.t.nuq,aV (List.length_filter_le _ _) h.t.nrf,λf a=>h.t.refs f (List.mem_filter.1 a).1,h.t.chk⟩,h.rows,h.vals⟩
theorem F4{a:zN}(h:¬LT.lt (α:=Int) (ab t a) 0):zK (ab t a) (N t.2.1)=Z:=pW ⟨S,(iS h).2⟩
theorem Tu(h:DX t)(n:List zN):∀c∈eX t n,N (c:cK).1<=1000000:=by
 intro c a;obtain⟨s,_,rfl⟩:=bt.1 a;by_cases x:W (ab t s)<N t.2.1
 .rw[bD,aj x];exact h.cols _ (bh x)
 .rw[bD,fa S];exact aK _
theorem zba{k:Int}{n j:Nat}(h:j∈FZ k n):j<n:=by unfold FZ at h;simpa using(List.mem_filter.1 h).1
theorem zoe(F:∀x∈db,Ii x)(hp:(bu db g).1=0)(B:yX g):jG db (bu db g).2:=by
 have⟨hm,h1,hb,U,x1,z⟩:=LA hp;have hB:=(jQ λx C=>(F x C).short).1 hb;have s:=kR h1;have y:(cV db g).1=0:=by rw[<-z];exact hp
 have⟨H,f2,f3⟩:=D7 y;rw[z];have h0:LE.le (α:=Int) 0 (ao db g.q.1):=U _ (by unfold bY;split<;>simp);have C:cN db (cV db g).2=jS (aP (bY g.q.1 (cU g))) (aU db g.q.1):=by
  unfold cN zD;rw[f2,f3];have:∃r,bY g.q.1 (cU g)=g.q.1::r:=by unfold bY;split<;>exact⟨_,rfl⟩
  have⟨r,e⟩:=this;rw[e];rfl
 have hF:=F _ (jz h0).1;have D:Ii (cN db (cV db g).2):=by rw[C];exact hF.cut
 have E:DX (aA db g.q.1):=hF.t;rcases hm with n|n|n
 .have e:cV db g=jn (vI (aA db g.q.1) g.r.1) (g.1,g.q.1,g.p,(g.2.1,eX (aA db g.q.1) g.r.1,iA (ke (aA db g.q.1) g.r.1) (aA db g.q.1).q.1,[],[],g.x.1),ke (aA db g.q.1) g.r.1,0):=by
   unfold cV;rw[zf (by simp[n])]
  have e0:=y;rw[e]at e0;have⟨d,o⟩:=jo e0;unfold vI at d;split at d;rotate_left
  next h=>exact zB d h
  rename_i G;split at d
  .cases d
  rename_i hk;have m:=se G;refine⟨?_,D,(by rw[e,o];show(ke _ _).length<=_;unfold ke;rw[cY];have:=B.sh.names.1;omega),?_,(by rw[H,n];intro h;cases h),(by rw[H,n];intro h;cases h)⟩
  .rw[e,o];exact⟨aV B.sh.table S,Tu E _,by show(eX _ _).length<=_;unfold eX;rw[cY];have:=B.sh.names.1;omega,aK _,aK _,λf P=>(by cases P),B.chk⟩
  .intro _;rw[C,e,o];refine⟨λc l=>?_,?_⟩
   .obtain⟨a,ha,rfl⟩:=bt.1 l;exact F4 (m a ha)
   .rcases OH (ke (aA db g.q.1) g.r.1) (aA db g.q.1).q.1 with⟨j,A,q1,q2,_⟩|⟨q1,_⟩
    .exact⟨j,A,q1,q2⟩
    .exact zB (by rw[q1];decide) hk
 .have e:cV db g=jn (gL (aA db g.q.1) (eT db g.p) g.u.1 g.p)
     (g.1,g.q.1,g.p,(g.2.1,(aA db g.q.1).2.1++ju (eT db g.p) (N (eT db g.p).2.1),(aA db g.q.1).q.1,[],[],g.x.1),
      nX (eT db g.p).q.1 (N (eT db g.p).2.1),ab (aA db g.q.1) g.u.1):=by
   unfold cV;rw[zh (by simp[n]),zf (by simp[n])]
  have e0:=y;rw[e]at e0;have⟨d,o⟩:=jo e0;have hr:=JA s n;have h3:bY g.q.1 (cU g)=[g.q.1,cU g]:=by unfold bY;rw[zh (by simpa using hr)]
  have h4:LE.le (α:=Int) 0 (ao db (cU g)):=U _ (by rw[h3];simp);have x0:eT db g.p=(aU db (cU g)).1:=by
   unfold eT;rw[zh hr];rfl
  have hU:=F _ (jz h4).1;rw[x0]at e d o;refine⟨?_,D,(by rw[e,o];show(nX _ _).length<=_;unfold nX;rw[cY];exact aV (mD _ _) hU.t.ncols),(by rw[H,n];intro h;cases h),?_,(by rw[H,n];intro h;cases h)⟩
  .rw[e,o];refine⟨aV B.sh.table S,λc l=>?_,?_,aK _,aK _,λf P=>(by cases P),B.chk⟩
   .rcases dl.1 l with l|l
    .exact E.cols c l
    .obtain⟨j,A,rfl⟩:=bt.1 l;have A:=zba A;rw[bD,aj A];exact hU.t.cols _ (bh A)
   .show(_++ju _ _).length<=1000;unfold gL at d;split at d
    .cases d
    split at d;rotate_left
    .cases d
    split at d
    .cases d
    rename_i h9;have:=mD (aU db (cU g)).1.q.1 (aU db (cU g)).1.2.1.length;unfold ju;rw[jK,cY];omega
  .intro _;have hs:zD db (cV db g).2=[cN db (cV db g).2,jS (aP (bY g.q.1 (cU g))) (aU db (cU g))]:=by
    rw[C];unfold zD;rw[f2,f3,h3];rfl
   refine⟨?_,jS (aP (bY g.q.1 (cU g))) (aU db (cU g)),hs,(hB.rels _ (jz h4).1).cut,hU.cut,?_,?_⟩
   .rw[C,e,o];rfl
   .rw[e,o];intro c l;obtain⟨j,A,rfl⟩:=bt.1 l;exact zu (zba A)
   .have h8:((cV db g).2).u=ab (aA db g.q.1) g.u.1:=by rw[e,o]
    have h6:kc (aA db g.q.1).t.1 (ab (aA db g.q.1) g.u.1,cU g)=Z:=by
     unfold gL at d;split at d
     .cases d
     split at d
     .assumption
     .cases d
    rw[C,h8];exact(hB.bound _ (jz h0).1 _ ((pS _ _).1 h6)).2
 .have e:cV db g=jn (rS (aA db g.q.1) g.r.1) (g.1,g.q.1,g.p,(g.2.1,AM (aA db g.q.1) g.r.1,0,[],[],g.x.1),ke (aA db g.q.1) g.r.1,0):=by
   unfold cV;rw[zh (by simp[n]),zh (by simp[n]),zf (by simp[n])]
  have e0:=y;rw[e]at e0;have⟨d,o⟩:=jo e0;have G:gV (aA db g.q.1) g.r.1=0:=by
   unfold rS at d;split at d
   .assumption
   .exact d
  have m:=se G;have h2:=kJ s n;refine⟨?_,D,(by rw[e,o];show(ke _ _).length<=_;unfold ke;rw[cY];omega),(by rw[H,n];intro h;cases h),(by rw[H,n];intro h;cases h),?_⟩
  .rw[e,o];refine⟨aV B.sh.table S,λc l=>?_,(by show(2:Nat)<=1000;omega),aK _,aK _,λf P=>(by cases P),B.chk⟩;have w:=Tu E g.r.1;have hl:(eX (aA db g.q.1) g.r.1).length=2:=by unfold eX;rw[cY];exact h2
   generalize h5:eX (aA db g.q.1) g.r.1=cs at w hl
   match cs,hl with
   | [a,b],_=>
    have l:c∈AM (aA db g.q.1) g.r.1:=l;unfold AM at l;rw[h5]at l;rcases ce.1 l with rfl|l
    .exact w a sw
    .rw[fb]at l;subst l;exact w b sw
  .intro _;rw[C,e,o]
   match h7:g.r.1,h2 with
   | [a,b],_=>
    rw[h7]at m;exact⟨rfl,ab (aA db g.q.1) a,ab (aA db g.q.1) b,rfl,F4 (m a sw),F4 (m b sw)⟩
def eqR(a b:zr):Bool:=@decide (a=b) (Classical.propDecidable _)
theorem CY{b:zr}:eqR l b=Z↔l=b:=by unfold eqR;exact@decide_eq_true_iff _ (Classical.propDecidable _)
theorem Xd(a b:zr)(P:N a<=1000000):LO a b=Z/\Si a b=eqR a b:=by
 have:Dd a b=some (eqR a b,()):=by
  by_cases C:N a=N b
  .have D:(zfe a b).val=Y (.inl (.h4 a b ((0:Nat):Int))):=by
    simp only[zfe,Q8,C,gj,zA,zm];rfl
   have l:∀k,k<=N a->(∀i(h:i<k),a[i]?=b[i]?)->zG Xr (k*1) (.h4 a b ((0:Nat):Int)) (.h4 a b (k:Int)):=λk z A=>
    zG.all (t:=Xr) 1 (λi=>.h4 a b (i:Int)) k λi y=>zG.of (by
     have c:i<N a:=by omega
     have g:i<N b:=by omega
     have e:=A i y;rw[aj c,aj g]at e;have x:qD a[i] b[i]=Z:=jE.2 (Option.some.inj e);unfold qD at x;simp only[Xr,Q8,zM c,zu c,zu g,zi,zP _ _ c,zP _ _ g,x,bW,zA,zm];rw[zt i um])
   by_cases o:a=b
   .rw[CY.2 o];refine zz D ((l (N a) (zR _) (λi _=>by rw[o])).ends (zV.of (r:=(.kb Z,[])) ?_)) S rfl;simp only[Xr,Q8,zJ,zA,zm]
   .have s:eqR a b=M:=Bool.eq_false_iff.2 λh=>o (CY.1 h)
    rw[s];have w:∃i,a[i]?≠b[i]?:=kF λB=>o (oB λi=>kF λh=>B ⟨i,h⟩)
    obtain⟨k,z,G⟩:∃k,a[k]?≠b[k]?/\∀i,i<k->a[i]?=b[i]?:=by
     have⟨n,A⟩:=w
     induction n using Nat.strongRecOn with
     | ind n H=>
      by_cases h:∃m,m<n/\a[m]?≠b[m]?
      .have⟨m,E,q⟩:=h;exact H m E q
      .exact⟨n,A,λi y=>kF λq=>h ⟨i,y,q⟩⟩
    have d:k<N a:=by
     refine kF λh=>z ?_
     rw[fa S,fa S]
    have j:k<N b:=by omega
    have x:qD a[k] b[k]=M:=Bool.eq_false_iff.2 λh=>z (by rw[aj d,aj j,jE.1 h])
    unfold qD at x;refine zz D ((l k S G).ends (zV.of (r:=(.kb M,[])) ?_)) S rfl;simp only[Xr,Q8,zM d,zu d,zu j,zi,zP _ _ d,zP _ _ j,x,dd]
  .have s:eqR a b=M:=Bool.eq_false_iff.2 λh=>C (by rw[CY.1 h])
   have F:((N a:Int)!=(N b:Int))=Z:=by simp;omega
   rw[s];refine zQ (r:=(.kb M,[])) ?_ rfl;simp only[zfe,Q8,F,zi]
 exact⟨by unfold LO;rw[this];rfl,by unfold Si;rw[this];rfl⟩
theorem Cf{h:List zr}(e:N h<=1000000)(b:∀r∈h,N r<=1000000):Dp h h=Z/\L6 h h=Z:=by
 have:Dq h h=Y (Z,()):=by
  have c:(znf h h).val=Y (.inl (.h4 h h ((0:Nat):Int))):=by
   simp only[znf,Q8,gj,zA,zm];rfl
  have a:=zG.all (t:=zgv) 1 (λi=>.h4 h h (i:Int)) (N h) λi x=>zG.of (by
   have⟨d,q⟩:=Xd h[i] h[i] (b _ (bh x));rw[CY.2 rfl]at q;simp only[zgv,Q8,zM x,zu x,zi,zP _ _ x,d,q,bW,zA,zm];rw[zt i um])
  refine zz c (a.ends (zV.of (r:=(.kb Z,[])) ?_)) S rfl;simp only[zgv,Q8,zJ,zA,zm]
 exact⟨by unfold Dp;rw[this];rfl,by unfold L6;rw[this];rfl⟩
def s18(l:zT)(i:Int)(p:zY)(v:zo):List zr->Hy
 |[]=>.h3 l i (p,()) (v,())
 |a::r=>.h3b l i (p,()) (v,()) (a::r)
section
variable {db:List (L zl)} {p:L zZ}
theorem aw.cols0(h:aw db p)(a:p.1≠dp)(b:p.1≠fD):0<N p.t.1:=by
 refine kF λd=>?_
 have e:(p.1==dp)=M:=by simpa using a
 have x:(p.1==fD)=M:=by simpa using b
 have c:zK 0 (N p.t.1)=M:=by rw[Nat.eq_zero_of_not_pos d];rfl
 have g:(WC p (zD db p)).val=none:=by simp only[WC,Q8,e,x,c,zA,zm]
 have:=h.plc;unfold uv am bT at this;rw[g]at this;cases this
theorem aw.len0(h:aw db p):zK 0 (zD db p).length=Z:=zu (i:=0) (lL h.go.two).1
theorem aw.qOf(h:aw db p){row:zr}(x:zK (bI p (zD db p)) (N row)=Z):wq p (zD db p) row=Y (zO (bI p (zD db p)) row,()):=by
 have c:=h.len0;refine zQ (r:=(agg [J (zO (bI p (zD db p)) row).1,J (zO (bI p (zD db p)) row).2.1,X (zO (bI p (zD db p)) row).q],[])) ?_ rfl;by_cases a:p.1=dp
 .have e:bI p (zD db p)=(T (zD db p) (W 0) (Q zl)).1.q.1:=by unfold bI;rw[zf a];rfl
  rw[e]at x|-;simp only[zfg,Q8,show(p.1==fD)=M by rw[a];rfl,show(p.1==na)=M by rw[a];rfl,c,x,zA,zi,zm]
 .by_cases b:p.1=fD
  .have e:bI p (zD db p)=p.u:=by unfold bI;rw[zh a,zf b]
   rw[e]at x|-;simp only[zfg,Q8,show(p.1==fD)=Z by rw[b];rfl,x,zi]
  .have e:bI p (zD db p)=T p.t.1 (W 0) (Q zk):=by unfold bI;rw[zh a,zh b];rfl
   have d:(p.1==na)=Z:=by
    rcases h.mig with e|e|e
    .exact zB e a
    .exact zB e b
    .rw[e];rfl
   have g:zK 0 (N p.t.1)=Z:=zu (i:=0) (h.cols0 a b);rw[e]at x|-;simp only[zfg,Q8,show(p.1==fD)=M by simpa using b,d,g,x,zA,zi,zm]
theorem aw.qOf'(h:aw db p){row:zr}(x:row∈(cN db p).2):wo p (zD db p) row=Z/\JR p (zD db p) row=zO (bI p (zD db p)) row:=by have:=h.qOf (h.inn row x).1;exact⟨by unfold wo;rw[this];rfl,by unfold JR;rw[this];rfl⟩
theorem zge(h:aw db p){v:zo}{acc:List zr}{i:Nat}(a:i<(cN db p).2.length)(g:N acc<=1000):
  (CH (s18 (zD db p) (i:Int) p v acc)).val=Y (.inl (s18 (zD db p) ((i+1:Nat):Int) p v (ite (rW (bI p (zD db p)) v (cN db p).2[i]=Z) (acc++[(cN db p).2[i]]) acc))):=by
 have j:=h.rel.few;have x:=h.len0;have b:T (zD db p) (W 0) (Q zl)=cN db p:=rfl;have⟨o1,o2⟩:=h.qOf' (bh a);have d:(cond (v.1!=0) (zK 0 (zD db p).length&&(zK (i:Int) (cN db p).2.length&&wo p (zD db p) (cN db p).2[i])) Z)=Z:=by
  rw[x,zu a,o1];cases v.1!=0<;>rfl
 have e:(cond (v.1!=0) ((zO (bI p (zD db p)) (cN db p).2[i]).1==v.1&&((zO (bI p (zD db p)) (cN db p).2[i]).2.1==v.2.1&&((zO (bI p (zD db p)) (cN db p).2[i]).q==v.q&&Z))) M)=rW (bI p (zD db p)) v (cN db p).2[i]:=by
  unfold rW;show(cond (v.1!=0) (qD (zO (bI p (zD db p)) (cN db p).2[i]) v) M)=_;cases v.1!=0<;>cases qD (zO (bI p (zD db p)) (cN db p).2[i]) v<;>rfl
 cases acc with
 | nil=>
  show(CH (.h3 _ _ _ _)).val=_;simp only[CH,Q8,b,x,zM a,zu a,zi,zP _ _ a,zn,aN,o2];rw[zt i um,e];rw[x,zu a]at d;rw[zf d];cases l:rW (bI p (zD db p)) v (cN db p).2[i]<;>rfl
 | cons c r=>
  show(CH (.h3b _ _ _ _ _)).val=_;simp only[CH,Q8,b,x,zM a,zu a,zi,zP _ _ a,zn,aN,o2];rw[zt i um,e];rw[x,zu a]at d;rw[zf d];cases l:rW (bI p (zD db p)) v (cN db p).2[i]
  .rfl
  .simp only[zi];rw[zf (by simp at g|-;omega)];rfl
theorem aw.qRows(h:aw db p)(v:zo):Ga p (zD db p) v=Z/\LJ p (zD db p) v=(cN db p).2.filter (rW (bI p (zD db p)) v):=by
 have g:=h.rel.few;have x:=h.len0;have c:T (zD db p) (W 0) (Q zl)=cN db p:=rfl;have:xL p (zD db p) v=Y ((cN db p).2.filter (rW (bI p (zD db p)) v),()):=by
  have j:(ztS p (zD db p) v).val=Y (.inl (s18 (zD db p) ((0:Nat):Int) p v [])):=rfl;have d:=zG.all (t:=CH) 1 (λi=>s18 (zD db p) (i:Int) p v (((cN db p).2.take i).filter (rW (bI p (zD db p)) v))) (cN db p).2.length λi e=>zG.of (by
   rw[zge h e (aV (List.length_filter_le _ _) sg)];congr 3;rw[aQ e,List.filter_append];cases l:rW (bI p (zD db p)) v (cN db p).2[i]<;>simp[l])
  simp only[List.take_zero,List.filter_nil,eF]at d;generalize(cN db p).2.filter (rW (bI p (zD db p)) v)=acc at d|-;have b:∃r,zV CH 1 (s18 (zD db p) ((cN db p).2.length:Int) p v acc) r/\aX r.2 [ze.sl.sl] r.1=Y (acc,()):=by
   cases acc with
   | nil=>
    refine⟨_,zV.of (by
     show(CH (.h3 _ _ _ _)).val=_;simp only[CH,Q8,c,x,zJ,zA,zi,zm];rfl),rfl⟩
   | cons a r=>
    refine⟨_,zV.of (by
     show(CH (.h3b _ _ _ _ _)).val=_;simp only[CH,Q8,c,x,zJ,zA,zi,zm];rfl),rfl⟩
  have⟨r,m,n⟩:=b;exact zz j (d.ends m) S n
 exact⟨by unfold Ga;rw[this];rfl,by unfold LJ;rw[this];rfl⟩
end
def gO(p:zY)(row:zr):zr:=List.map (λc=>zO c row) p.t.1
def wJ(p:zY)(s:zo)(row:zr):zo:=if(zO (T p.t.1 (W 1) (Q zk)) row).1=0 then s else qW s (zO (T p.t.1 (W 1) (Q zk)) row)
def Cr(src:zT):ag:=src.getD (W 1) (Q zl)
def lw(p:zY)(src:zT)(v:zo)(row:zr):zr:=
 if p.1=fD then row++gO p (T (Cr src).2 (al (λr=>bG r (Cr src).1.q.1 v) (Cr src).2 0).toNat (Q ze.sl))else gO p row
def qb(p:zY)(src:zT)(v:zo)(rows:List zr):List zr:=
 if p.1=na then(ite (rows=[]) [] [[v,rows.foldl (wJ p) (1,0,[])]])else rows.map (lw p src v)
section
variable {db:List (L zl)} {p:L zZ} {l1:List (L zl)} {rows acc:List (List (L R))} {v:L R}
theorem Ux{l b:zr}{i:Nat}(e:∀c∈p.t.1,zK c (N l)=Z)(q:N p.t.1<=1000)(n:N b<=1000)(m:N acc<=1000)(o:i<=1000):
  zG yM (N p.t.1+1) (.h22 l1 rows (i:Int) l ((0:Nat):Int) (p,()) (v,()) acc b) (.h14 l1 rows ((i+1:Nat):Int) (p,()) (v,()) (acc++[b++gO p l])):=by
 have a:=zG.all (t:=yM) 1 (λj=>.h22 l1 rows (i:Int) l (j:Int) (p,()) (v,()) acc (b++(p.t.1.take j).map λc=>zO c l)) (N p.t.1) λj h=>zG.of (by
  have d:=e _ (bh h);have x:K ((b++(p.t.1.take j).map λc=>zO c l).length+[zO p.t.1[j] l].length<=1073741824)=Z:=by simp;omega
  simp only[yM,Q8,zM h,zu h,zP _ _ h,d,zi];rw[zf x,zt j um,aQ h,gm,<-D4];rfl)
 have g:zG yM 1 (.h22 l1 rows (i:Int) l (N p.t.1:Int) (p,()) (v,()) acc (b++gO p l)) (.h14 l1 rows ((i+1:Nat):Int) (p,()) (v,()) (acc++[b++gO p l])):=zG.of (by
  have x:K (N acc+[b++gO p l].length<=1073741824)=Z:=by simp;omega
  simp only[yM,Q8,zJ,zA,zm];rw[zf x,zt i um])
 simp only[List.take_zero,oG,rx,eF]at a;exact(a.trans g).mono S
theorem zvs(h:aw db p)(m:jG db p)(v:zo):Gb p (zD db p) v=Y (qb p (zD db p) v ((cN db p).2.filter (rW (bI p (zD db p)) v)),()):=by
 have U:=h.rel.few;have⟨r1,r2⟩:=h.qRows v;have o:∀row∈(cN db p).2.filter (rW (bI p (zD db p)) v),row∈(cN db p).2/\zO (bI p (zD db p)) row=v/\v.1≠0:=λrow hr=>⟨(List.mem_filter.1 hr).1,lF.1 (List.mem_filter.1 hr).2⟩
 have A:((cN db p).2.filter (rW (bI p (zD db p)) v)).length<=200:=aV (List.length_filter_le _ _) U;generalize(cN db p).2.filter (rW (bI p (zD db p)) v)=rows at r2 o A|-;have H:=m.few;by_cases E:p.1=na
 .have⟨_,a,b,j,ha,hb⟩:=m.group E;have hs:(Z2 p (zD db p) v).val=Y (.inl (.h6 rows ((0:Nat):Int) (p,()) (v,()) ((1,0,[]),()))):=by
   simp only[Z2,Q8,zn,aN,r1,r2,show(p.1==na)=Z by rw[E];rfl,zi];rfl
  have h5:zK 1 (N p.t.1)=Z:=by rw[j];rfl
  have G:T p.t.1 (W 1) (Q zk)=b:=by rw[j];rfl
  have h4:∀(n:Nat),kX ((rows.take n).foldl (wJ p) (1,0,[])):=by
   intro n
   induction n with
   |zero=>exact(⟨by decide,by decide,aK _⟩:kX (1,0,[]))
   | succ n ih=>
    by_cases hn:n<N rows
    .rw[aQ hn,List.foldl_append];show kX (wJ p _ _);unfold wJ;split
     .exact ih
     .exact DW _ _
    .rwa [DZ S,<-DZ (i:=n) (l:=rows) S]
  have g:=zG.all (t:=yM) 1 (λi=>.h6 rows (i:Int) (p,()) (v,()) ((rows.take i).foldl (wJ p) (1,0,[]),())) (N rows) λi d=>zG.of (by
   have⟨F,q2,q3⟩:=o _ (bh d);have D:zK b rows[i].length=Z:=by rw[(h.inn _ F).2];exact hb
   have hv:kX (zO b rows[i]):=by
    have h3:b.toNat<rows[i].length:=by
     unfold zK at D;simp only[aO,bc]at D;omega
    unfold zO;rw[bD,aj h3];exact m.fr.vals _ F _ (bh h3)
   have p1:=JV (h4 i) hv;have p2:=Bb (h4 i) hv;simp only[yM,Q8,zM d,zu d,zP _ _ d,h5,G,D,p1,p2,zi];rw[aQ d,List.foldl_append,zt i um];show _=Y (Sum.inl (vy.h6 rows ((i+1:Nat):Int) (p,()) (v,()) (wJ p _ _,())));unfold wJ;rw[G];by_cases s:(zO b rows[i]).1=0
   .rw[zf s,zh (by simpa using s)]
   .rw[zh s,zf (by simpa using s)];rfl)
  simp only[eF,List.take_zero,List.foldl_nil]at g;unfold qb;rw[zf E];by_cases s:rows=[]
  .rw[zf s];subst s;refine zz hs (g.ends (zV.of (r:=(nils,[])) ?_)) sw rfl;rfl
  .rw[zh s];refine zz hs (g.ends (zV.of (r:=(AV.vec 0,[AO.vec ze.sl [[v,rows.foldl (wJ p) (1,0,[])]]])) ?_)) S rfl;have hp:K ((N rows:Int)>0)=Z:=zC (by have:=List.length_pos_iff.2 s;omega);simp only[yM,Q8,zJ,hp,zA,zm,zi];rfl
 .have hs:(Z2 p (zD db p) v).val=Y (.inl (.h14 (zD db p) rows ((0:Nat):Int) (p,()) (v,()) [])):=by
   simp only[Z2,Q8,zn,aN,r1,r2,show(p.1==na)=M by simpa using E,zA,zi,zm];rfl
  have g:=zG.all (t:=yM) 1002 (λi=>.h14 (zD db p) rows (i:Int) (p,()) (v,()) ((rows.take i).map (lw p (zD db p) v))) (N rows) λi d=>by
   have⟨F,q2,q3⟩:=o _ (bh d);have x1:=h.len F;rw[aQ d,gm];show zG yM 1002 _ (.h14 _ _ _ _ _ (_++[lw p (zD db p) v rows[i]]));have C:((rows.take i).map (lw p (zD db p) v)).length<=1000:=by simp;omega
   generalize(rows.take i).map (lw p (zD db p) v)=acc at C|-;unfold lw;by_cases z:p.1=fD
   .rw[zf z];have⟨_,y,hy,yo,yw,yc,yr⟩:=m.join z;have B:bI p (zD db p)=p.u:=by unfold bI;rw[zh (by rw[z];decide),zf z]
    have hw:Cr (zD db p)=y:=by rw[hy];rfl
    have h2:zK 1 (zD db p).length=Z:=by rw[hy];rfl
    have hk:∀r∈y.2,zK y.1.q.1 (N r)=Z:=λr hr=>by rw[(cq (yo.fits r hr)).1];exact pW (fX yo.may).1
    have P:=Be (v:=v) yw.t yo.may hk (by have:=yo.few;omega);have h9:ud y v=Z:=by unfold ud;rw[P];rfl
    have h1:Bd y v=al (λr=>bG r y.1.q.1 v) y.2 0:=by unfold Bd;rw[P];rfl
    have x:=yr _ F (by rw[<-B,q2];exact q3);rw[<-B,q2]at x;rw[hw];rcases ei (λr=>bG r y.1.q.1 v) y.2 0 with⟨e1,_⟩|⟨k,w,e1,e2,_⟩
    .unfold g7 at x;rw[e1]at x;exact zB x (by decide)
    .rw[eI]at e1;rw[e1]at h1|-;have x0:(y.2[k]).length=N y.1.2.1:=(cq (yo.fits _ (bh w))).1;rw[zP _ _ w];refine(zG.trans (s':=vy.h22 (zD db p) rows (i:Int) y.2[k] ((0:Nat):Int) (p,()) (v,()) acc rows[i]) (zG.of ?_) (Ux (λc hc=>by rw[x0];exact yc c hc) H S C S)).mono S;have h8:(zD db p).getD (W 1) (Q zl)=y:=hw;have hl:K (rows[i].length<=1073741824)=Z:=by simp;omega
     simp only[yM,Q8,zn,aN,zM d,zu d,zP _ _ d,show(p.1==fD)=Z by rw[z];rfl,h2,h8,h9,h1,zu w,zP _ _ w,hl,zi];rfl
   .rw[zh z];have h7:p.1=dp:=by
     rcases h.mig with e|e|e
     .exact e
     .exact zB e z
     .exact zB e E
    refine(zG.trans (s':=vy.h22 (zD db p) rows (i:Int) rows[i] ((0:Nat):Int) (p,()) (v,()) acc []) (zG.of ?_) (Ux (λc hc=>by rw[(h.inn _ F).2];exact(m.copy h7).1 c hc) H sw C S)).mono S;simp only[yM,Q8,zM d,zu d,zP _ _ d,show(p.1==fD)=M by simpa using z,zA,zi,zm];rfl
  simp only[eF,List.take_zero,oG]at g;unfold qb;rw[zh E];have:N rows*1002<=200*1002:=fM _ A;refine zz hs (g.ends (zV.of (r:=(AV.vec 0,[AO.vec ze.sl (rows.map (lw p (zD db p) v))])) ?_)) S rfl;simp only[yM,Q8,zJ,zA,zm]
end
theorem Pe(a:Int)(rows:List zr):∀h:zr,h.Nodup->(∀u∈h,u.1≠0)->
  (h.map λu=>(rows.filter (rW a u)).length).sum+(rows.filter λrow:zr=>!h.any λu:zo=>rW a u row).length=N rows
 |[],_,_=>by simp
 | u :: h,hn,h0=>by
  rw[List.nodup_cons]at hn;have b:=Pe a rows h hn.2 λx m=>h0 x (np _ m)
  rw[er,List.sum_cons];have n:(rows.filter (rW a u)).length+(rows.filter λrow:zr=>!(u::h).any λu:zo=>rW a u row).length=(rows.filter λrow:zr=>!h.any λu:zo=>rW a u row).length:=by
   clear b
   induction rows with
   |nil=>rfl
   | cons row r b=>
    simp only[List.filter_cons,List.any_cons];cases d:rW a u row with
    | true=>
     have g:(h.any λu:zo=>rW a u row)=M:=by
      rw[List.any_eq_false];intro v l j;have e:=(lF.1 d).1;have c:=(lF.1 j).1;exact hn.1 (by rw[<-e,c];exact l)
     simp only[g,Bool.or_false,bW,dd,zi,zA,zm,fB]at b|-;simp only[List.any_cons]at b;omega
    | false=>
     simp only[Bool.false_or,zA,zm];simp only[List.any_cons]at b;cases(h.any λu:zo=>rW a u row)with
     |true=>simpa using b
     | false=>
      simp only[dd,zi,fB];omega
  omega
theorem ZE:(cN db p).2=(aU db p.2.1).2:=by
 unfold cN zD;have:∃r,bY p.2.1 p.q.1=p.2.1::r:=by unfold bY;split<;>exact⟨_,rfl⟩
 have⟨r,e⟩:=this;rw[e];rfl
section
variable {db:List (L zl)} {p:L zZ}
theorem aw.rise(h:aw db p):(cD p (zD db p)).Pairwise qE:=(ta λ_ a=>h.may a).1
theorem aw.nodup(h:aw db p):(cD p (zD db p)).Nodup:=by unfold List.Nodup;exact h.rise.imp λ{a b} x(e:a=b)=>eB (a:=b) (by rw[e]at x;exact x)
end
def sQ(db:zT)(p:zY)(v:zo):List zr:=(cN db p).2.filter (rW (bI p (zD db p)) v)
def cA(db:zT)(p:zY)(v:zo):List zr:=(qb p (zD db p) v (sQ db p v)).filter λr=>cm p.r.1 r==(0:Int)
theorem rG(h:zK c (N row)=Z):zO c row∈row:=by
 have x:c.toNat<N row:=by
  unfold zK at h;simp only[aO,bc]at h;omega
 unfold zO;rw[bD,aj x];exact bh x
theorem Om{p:zY}:∀(l:List zr)(s:zo),kX s->kX (l.foldl (wJ p) s)
 |[],_,h=>h
 | a::r,s,h=>Om r _ (by
  unfold wJ;split
  .exact h
  .exact DW _ _)
section
variable {db:List (L zl)} {p:L zZ} {v:L R}
theorem wB{row:zr}(h:row∈sQ db p v):row∈(cN db p).2/\zO (bI p (zD db p)) row=v/\v.1≠0:=⟨(List.mem_filter.1 h).1,lF.1 (List.mem_filter.1 h).2⟩
theorem FP:(qb p (zD db p) v (sQ db p v)).length<=(sQ db p v).length:=by
 unfold qb;split
 .split
  .simp
  next h=>have:=List.length_pos_iff.2 h;simp;omega
 .simp
theorem zgQ(_:aw db p)(m:jG db p)(d:p.1=fD){row:zr}(l:row∈sQ db p v):
  ∃y:ag,zD db p=[cN db p,y]/\eb y/\Ii y/\(∀c∈p.t.1,zK c (N y.1.2.1)=Z)/\T (Cr (zD db p)).2 (al (λr=>bG r (Cr (zD db p)).1.q.1 v) (Cr (zD db p)).2 0).toNat (Q ze.sl)∈y.2:=by
 have⟨_,y,g,z,B,w,A⟩:=m.join d;have⟨o,j,s⟩:=wB l;have a:bI p (zD db p)=p.u:=by unfold bI;rw[zh (by rw[d];decide),zf d]
 have n:Cr (zD db p)=y:=by rw[g];rfl
 have x:=A _ o (by rw[<-a,j];exact s);rw[<-a,j]at x;refine⟨y,g,z,B,w,?_⟩;rw[n];rcases ei (λr=>bG r y.1.q.1 v) y.2 0 with⟨e,_⟩|⟨k,b,e,C,_⟩
 .unfold g7 at x;rw[e]at x;exact zB x (by decide)
 .rw[eI]at e;rw[e,zP _ _ b];exact bh b
theorem zaC(h:aw db p)(m:jG db p):∀r∈qb p (zD db p) v (sQ db p v),∀x∈r,kX x:=by
 intro r d x b;unfold qb at d;split at d
 .split at d
  .cases d
  .rename_i n;rw[fb]at d;subst d;rcases ce.1 b with rfl|b
   .have⟨row,a⟩:=List.exists_mem_of_ne_nil _ n;have⟨q,o,_⟩:=wB a;rw[<-o];exact m.fr.vals _ q _ (rG (h.inn _ q).1)
   .rw[fb]at b;subst b;exact Om _ _ ⟨by decide,by decide,aK _⟩
 .rename_i w;obtain⟨row,a,rfl⟩:=bt.1 d;have⟨q,o,_⟩:=wB a;unfold lw at b;split at b
  .rename_i l;have⟨y,_,A,B,z,s⟩:=zgQ h m l a;rcases dl.1 b with b|b
   .exact m.fr.vals _ q _ b
   .obtain⟨c,g,rfl⟩:=bt.1 b;refine B.vals _ s _ (rG ?_);rw[(cq (A.fits _ s)).1];exact z c g
  .rename_i l;obtain⟨c,g,rfl⟩:=bt.1 b;have j:p.1=dp:=by
    rcases h.mig with e|e|e
    .exact e
    .exact zB e l
    .exact zB e w
   refine m.fr.vals _ q _ (rG ?_);rw[(h.inn _ q).2];exact(m.copy j).1 c g
theorem Fo:(cA db p v).length<=(sQ db p v).length:=aV (List.length_filter_le _ _) FP
theorem Fm(h:aw db p)(m:jG db p):∀r∈cA db p v,cm p.r.1 r=(0:Int)/\rr p.r.1.q.1 r/\dI p.r.1=Z:=by
 intro r j;have⟨e,x⟩:=List.mem_filter.1 j;have x:cm p.r.1 r=(0:Int):=by simpa using x
 have⟨c,d,_⟩:=cq x;have b:dI p.r.1=Z:=by
  cases g:dI p.r.1 with
  |true=>rfl
  | false=>
   unfold cm at x;rw[g,zf Mw]at x;cases x
 have a:zK p.r.1.q.1 (N r)=Z:=by rw[c];exact pW (fX b).1
 exact⟨x,⟨a,zaC h m r e _ (rG a),d _ (rG a)⟩,b⟩
end
set_option maxRecDepth 100000
section
variable {db:List (L zl)} {p:L zZ} {us:List (L R)}
end
section
variable {db:List (L zl)} {p:L zZ} {v:L R}
theorem NJ{c:Int}{l b:zr}(h:zK c (N l)=Z):zO c (l++b)=zO c l:=by
 have x:c.toNat<N l:=by
  unfold zK at h;simp only[aO,bc]at h;omega
 unfold zO;rw[bD,bD,rz x]
theorem zgc{x:ag}(h:eb x){l b:zr}(g:l∈x.2)(m:b∈x.2)(e:zO x.1.q.1 l=zO x.1.q.1 b):l=b:=by
 have d:=(jD _).1 h.may;have a:∀r∈x.2,(zO x.1.q.1 r).1≠0:=λr y=>by
  have⟨z,_,w⟩:=cq (h.fits r y);refine w _ ?_ d.nn;have A:=d.key.1;have B:=d.key.2;omega
 obtain⟨i,n,rfl⟩:=fN g;obtain⟨j,o,rfl⟩:=fN m;have s:=List.pairwise_iff_getElem.1 h.key;rcases Nat.lt_trichotomy i j with c|c|c
 .exact zB e (s i j n o c (a _ g))
 .subst c;rfl
 .exact zB e.symm (s j i o n c (a _ m))
theorem zae(h:aw db p)(m:jG db p)(A:v∈cD p (zD db p)){r:zr}(c:r∈qb p (zD db p) v (sQ db p v)):HT db p (zO p.2.2.2.1.2.2.1 r)=(v,0):=by
 have x:=(h.hasC v).2.2 A;unfold qb at c;split at c
 .rename_i n;split at c
  .cases c
  rw[fb]at c;subst c;obtain⟨k0,_⟩:=m.group n;rw[k0];unfold HT;rw[zh (by rw[n];decide)];show(ite (H4 (cD p (zD db p)) v=Z) (v,(0:Int)) _)=_;rw[zf x]
 .rename_i n;obtain⟨row,l,rfl⟩:=bt.1 c;obtain⟨q,w,D⟩:=wB l;unfold lw;split
  .rename_i b;obtain⟨k0,_⟩:=m.join b;have g:=h.rel.keys _ q;rw[k0,NJ g];have a:bI p (zD db p)=p.t.2:=by unfold bI;rw[zh (by rw[b];decide),zf b]
   unfold HT;rw[zf b];rcases ei (λr=>bG r (cN db p).1.2.2.1 (zO (cN db p).1.2.2.1 row)) (cN db p).2 0 with⟨_,o⟩|⟨k,j,s,o,_⟩
   .have:=o _ q;rw[(tt g).2 rfl]at this;cases this
   .rw[eI]at s;have z:(cN db p).2[k]=row:=zgc h.rel (bh j) q ((tt (h.rel.keys _ (bh j))).1 o);simp only[s];rw[zh S,zP _ _ j,z,<-a,w,zf x]
  .rename_i b;have d:p.1=dp:=by
    rcases h.mig with e|e|e
    .exact e
    .exact zB e b
    .exact zB e n
   obtain⟨_,k,j,B,C⟩:=m.copy d;have a:bI p (zD db p)=(cN db p).1.2.2.1:=by unfold bI;rw[zf d];rfl
   have y:zO p.2.2.2.1.2.2.1 (gO p row)=v:=by
    rw[B];unfold zO gO;rw[aI,bD,dN,aj j,C,<-a,<-w];rfl
   rw[y];unfold HT;rw[zh b,zf x]
end
section
variable {db:List (L zl)} {p:L zZ} {v:L R}
theorem OW(h:aw db p)(m:jG db p)(b:¬p.1=na){row:zr}(d:row∈(cN db p).2):zO p.r.1.q.1 (lw p (zD db p) v row)=zO (cN db p).1.q.1 row:=by
 unfold lw;split
 next a=>have⟨k0,_⟩:=m.join a;rw[k0,NJ (h.rel.keys _ d)]
 .rename_i a;have x:p.1=dp:=by
   rcases h.mig with e|e|e
   .exact e
   .exact zB e a
   .exact zB e b
  have⟨_,k,c,g,j⟩:=m.copy x;rw[g];unfold zO gO;rw[aI,bD,dN,aj c,j];rfl
def DM(k:Int)(l:List zr):Prop:=l.Pairwise λa b=>zO k a≠zO k b
theorem Xk{x:ag}(h:eb x):DM x.1.q.1 x.2:=by
 refine List.pairwise_iff_getElem.2 λi j d l b e=>?_
 have a:=(jD _).1 h.may;have⟨m,_,g⟩:=cq (h.fits _ (bh d));have c:(zO x.1.q.1 x.2[i]).1≠0:=by
  refine g _ ?_ a.nn;have n:=a.key.1;have o:=a.key.2;omega
 exact List.pairwise_iff_getElem.1 h.key i j d l b c e
theorem RK(h:aw db p)(m:jG db p):DM p.r.1.q.1 (cA db p v):=by
 refine List.Pairwise.sublist List.filter_sublist ?_;unfold qb;split
 .split
  .exact .nil
  .exact List.pairwise_singleton _ _
 .rename_i c;refine List.pairwise_map.2 ?_;refine((Xk h.rel).sublist (List.filter_sublist (p:=rW (bI p (zD db p)) v))).imp_of_mem λ{a b} d e x=>?_
  rw[OW h m c (List.mem_filter.1 d).1,OW h m c (List.mem_filter.1 e).1];exact x
theorem Cq(h:aw db p)(m:jG db p):∀{us:zr},us.Nodup->(∀u∈us,u∈cD p (zD db p))->DM p.r.1.q.1 (us.flatMap (cA db p))
 |[],_,_=>.nil
 | a::r,hn,hu=>by
  rw[List.flatMap_cons];refine List.pairwise_append.2 ⟨RK h m,Cq h m (List.nodup_cons.1 hn).2 (λu q=>hu u (np _ q)),λx g y j e=>?_⟩;have⟨u,c,l⟩:=BI.1 j;have b:=zae h m (hu a uO) (List.mem_filter.1 g).1;have d:=zae h m (hu u (np _ c)) (List.mem_filter.1 l).1;rw[e,d]at b;have:u=a:=congrArg Prod.fst b;subst this;exact(List.nodup_cons.1 hn).1 c
theorem VL{k:Int}{h:List zr}(x:DM k h){l b:zr}(g:l∈h)(m:b∈h)(e:zO k l=zO k b):l=b:=by
 obtain⟨i,a,rfl⟩:=fN g;obtain⟨j,d,rfl⟩:=fN m;rcases Nat.lt_trichotomy i j with c|c|c
 .exact zB e (List.pairwise_iff_getElem.1 x i j a d c)
 .subst c;rfl
 .exact zB e.symm (List.pairwise_iff_getElem.1 x j i d a c)
end
def lC(db:zT)(p:zY)(v:zo):Nat:=(qb p (zD db p) v (sQ db p v)).length-(cA db p v).length
def bZ(l:zr):zr:=l.foldl (λacc a=>if acc.any (λu=>qD u a)=Z then acc else acc++[a]) []
def fg(db:zT)(p:zY)(us:zr):Nat:=(us.map (lC db p)).sum
theorem r9(l:zr)(a:zo):bZ (l++[a])=if(bZ l).any (λu=>qD u a)=Z then bZ l else bZ l++[a]:=by unfold bZ;rw[List.foldl_append];rfl
theorem O7(l:zr)(a:zo):a∈bZ l↔a∈l:=by
 have d:∀(n:Nat)(l:zr),N l=n->(a∈bZ l↔a∈l):=by
  intro n
  induction n with
  |zero=>intro l c;rw[List.length_eq_zero_iff.1 c];exact Iff.rfl
  | succ n x=>
   intro l c;obtain⟨e,b,rfl⟩:∃e b,l=e++[b]:=⟨l.dropLast,l.getLast (List.ne_nil_of_length_pos S),(List.dropLast_concat_getLast _).symm⟩;have x:=x e (by simpa using c);rw[r9];split
   .rename_i h;have⟨u,g,j⟩:=List.any_eq_true.1 h;rw[jE.1 j]at g;rw[x,dl,fb];refine⟨.inl,λh=>?_⟩;rcases h with h|rfl
    .exact h
    .refine x.1 ?_;exact g
   .rw[dl,dl,x]
 exact d _ l rfl
theorem O6(l:zr)(a:zo):(bZ l).any (λu=>qD u a)=l.any (λu=>qD u a):=by rw[oE,List.any_eq_true,List.any_eq_true];exact⟨λ⟨u,h,x⟩=>⟨u,(O7 l u).1 h,x⟩,λ⟨u,h,x⟩=>⟨u,(O7 l u).2 h,x⟩⟩
theorem iR(l:zr):(bZ l).Nodup:=by
 have d:∀(n:Nat)(l:zr),N l=n->(bZ l).Nodup:=by
  intro n
  induction n with
  |zero=>intro l c;rw[List.length_eq_zero_iff.1 c];exact List.nodup_nil
  | succ n a=>
   intro l c;obtain⟨g,b,rfl⟩:∃g b,l=g++[b]:=⟨l.dropLast,l.getLast (List.ne_nil_of_length_pos S),(List.dropLast_concat_getLast _).symm⟩;have a:=a g (by simpa using c);rw[r9];split
   .exact a
   next h=>rw[List.nodup_append];refine⟨a,sw,λx m y j e=>h ?_⟩;rw[fb]at j;subst j;exact List.any_eq_true.2 ⟨x,m,jE.2 e⟩
 exact d _ l rfl
theorem JN(h:l.Nodup):bZ l=l:=by
 have c:∀(n:Nat)(l:zr),N l=n->l.Nodup->bZ l=l:=by
  intro n
  induction n with
  |zero=>intro l x _;rw[List.length_eq_zero_iff.1 x];rfl
  | succ n j=>
   intro l x a;obtain⟨d,b,rfl⟩:∃d b,l=d++[b]:=⟨l.dropLast,l.getLast (List.ne_nil_of_length_pos S),(List.dropLast_concat_getLast _).symm⟩;rw[List.nodup_append]at a;rw[r9,j d (by simpa using x) a.1,zh];rw[List.any_eq_true];rintro⟨u,g,e⟩;exact a.q u g b sw (jE.1 e)
 exact c _ l rfl h
section
variable {db:List (L zl)} {p:L zZ} {v:L R} {us:List (L R)}
theorem O2(h:v.1=0):sQ db p v=[]:=List.filter_eq_nil_iff.2 λ_ _ x=>(lF.1 x).2 h
theorem zog(h:v.1=0):qb p (zD db p) v (sQ db p v)=[]:=by rw[O2 h];unfold qb;split<;>rfl
theorem ze6:(cA db p v).length<=(qb p (zD db p) v (sQ db p v)).length:=List.length_filter_le _ _
theorem zay(us:zr)(d:us.Nodup):(us.map λu=>(qb p (zD db p) u (sQ db p u)).length).sum<=(cN db p).2.length:=by
 have b:∀l:zr,(l.map λu=>(qb p (zD db p) u (sQ db p u)).length).sum=((l.filter λu=>u.1!=0).map λu=>(qb p (zD db p) u (sQ db p u)).length).sum:=by
  intro l
  induction l with
  |nil=>rfl
  | cons a r x=>
   rw[er,List.sum_cons,List.filter_cons,x];by_cases h:a.1=0
   .rw[zh (by simpa using h),zog h];simp
   .rw[zf (by simpa using h),er,List.sum_cons]
 have c:∀l:zr,(l.map λu=>(qb p (zD db p) u (sQ db p u)).length).sum<=(l.map λu=>(sQ db p u).length).sum:=by
  intro l
  induction l with
  |nil=>exact zR _
  | cons a r x=>
   rw[er,List.sum_cons,er,List.sum_cons];have:=FP (db:=db) (p:=p) (v:=a);omega
 have g:=Pe (bI p (zD db p)) (cN db p).2 (us.filter λu=>u.1!=0) (d.filter _) λu e=>by simpa using(List.mem_filter.1 e).2
 rw[b];have:=c (us.filter λu=>u.1!=0);unfold sQ at this|-;omega
theorem RL(us:zr):(us.flatMap (cA db p)).length+fg db p us=(us.map λu=>(qb p (zD db p) u (sQ db p u)).length).sum:=by
 induction us with
 |nil=>rfl
 | cons a r h=>
  unfold fg at h|-;rw[List.flatMap_cons,jK,er,List.sum_cons,er,List.sum_cons,<-h];have:=ze6 (db:=db) (p:=p) (v:=a);unfold lC;omega
theorem Qo(h:aw db p)(m:jG db p)(v:zo):xN p (zD db p) v=Y (cA db p v,((lC db p v:Nat):Int),()):=by
 have x:Gb p (zD db p) v=Y (qb p (zD db p) v (sQ db p v),()):=zvs h m v;have c:(qb p (zD db p) v (sQ db p v)).length<=200:=aV FP (aV (List.length_filter_le _ _) h.rel.few);have j:=zaC (v:=v) h m;unfold lC cA;generalize qb p (zD db p) v (sQ db p v)=rows at x c j|-;have l:Se p (zD db p) v=Z:=by unfold Se;rw[x];rfl
 have n:zbv p (zD db p) v=rows:=by unfold zbv;rw[x];rfl
 have s:(znh p (zD db p) v).val=Y (.inl (.h4 rows ((0:Nat):Int) (p,()) [])):=by
  simp only[znh,Q8,zn,aN,l,n,zi];rfl
 have a:=zG.all (t:=zgw) 1 (λi=>.h4 rows (i:Int) (p,()) ((rows.take i).filter λr=>cm p.r.1 r==(0:Int))) (N rows) λi b=>zG.of (by
  have d:=j _ (bh b);have y:=J0 m.wf d;have z:=Py m.wf d;have e:((rows.take i).filter λr=>cm p.r.1 r==(0:Int)).length<=200:=aV (List.length_filter_le _ _) sg;rw[aQ b,List.filter_append];generalize((rows.take i).filter λr=>cm p.r.1 r==(0:Int))=acc at e|-;have o:K (N acc+[rows[i]].length<=1073741824)=Z:=by simp;omega
  simp only[zgw,Q8,zn,aN,zM b,zu b,zP _ _ b,y,z,o,zi];rw[zt i um];cases g:cm p.r.1 rows[i]==(0:Int)with
  |true=>rw[zf rfl,List.filter_cons,zf g];rfl
  |false=>rw[zh sw,List.filter_cons,zh (by rw[g];simp)];simp)
 simp only[eF,List.take_zero,List.filter_nil]at a;have q:(rows.filter λr=>cm p.r.1 r==(0:Int)).length<=N rows:=List.length_filter_le _ _;have w:Γ Δ ((N rows:Int)-((rows.filter λr=>cm p.r.1 r==(0:Int)).length:Int))=((N rows-(rows.filter λr=>cm p.r.1 r==(0:Int)).length:Nat):Int):=by
  rw[fe];omega
 refine zz s (a.ends (zV.of (r:=(tup [AV.vec 0,J ((N rows-(rows.filter λr=>cm p.r.1 r==(0:Int)).length:Nat):Int)],[AO.vec ze.sl (rows.filter λr=>cm p.r.1 r==(0:Int))])) ?_)) S rfl;simp only[zgw,Q8,zJ,zA,zm,w]
end
section
variable {db:List (L zl)} {p:L zZ} {us:List (L R)}
theorem Yb{l:zr}{a:zo}{j:Nat}(h:j<N l):(l.take (j+1)).any (λu=>qD u a)=if(l.take j).any (λu=>qD u a)=Z then Z else qD l[j] a:=by rw[aQ h,List.any_append];cases(l.take j).any λu=>qD u a<;>simp
theorem ztH{l1:zT}{n:Int}{z1:zq nV}{z2:zq Ad}(d:N us<=1000000){i:Nat}(x:i<N us):
  ∀j,j<=i->∃s,((s=VE.h8 l1 us n (i:Int) (j:Int) (p,()) z1 z2/\j=0)\/s=VE.h8b l1 us n (i:Int) ((us.take j).any λu=>qD u us[i]) (j:Int) (p,()) z1 z2)/\zG Vc j (.h8 l1 us n (i:Int) ((0:Nat):Int) (p,()) z1 z2) s
 |0,_=>⟨_,.inl ⟨rfl,rfl⟩,zG.refl _⟩
 | j+1,g=>by
  have⟨s,e,c⟩:=ztH (l1:=l1) (n:=n) (z1:=z1) (z2:=z2) d x j S;have h:j<N us:=by omega
  have a:K ((j:Int)<(i:Int))=Z:=zC S;refine⟨.h8b l1 us n (i:Int) ((us.take (j+1)).any λu=>qD u us[i]) ((j+1:Nat):Int) (p,()) z1 z2,.inr rfl,(c.trans (zG.of ?_)).mono S⟩;have b:(us[j].1==us[i].1&&(us[j].2.1==us[i].2.1&&(us[j].q==us[i].q&&Z)))=qD us[j] us[i]:=rfl;rw[Yb h];rcases e with⟨rfl,rfl⟩|rfl
  .simp only[Vc,Q8,a,zu h,zu x,zP _ _ h,zP _ _ x,b,zi];rw[zt 0 um,List.take_zero,List.any_nil,zh sw]
  .simp only[Vc,Q8,a,zu h,zu x,zP _ _ h,zP _ _ x,b,nu,zi];rw[zt j um];cases(us.take j).any λu=>qD u us[i]<;>simp
theorem zzI(h:aw db p)(m:jG db p)(q:N us<=1000000){i:Nat}(x:i<N us){n:Nat}(A:n<=1000){z1:zq nV}{acc:List zr}(y:N acc<=1000):
  zG Vc (i+2) (.h4 (zD db p) us (n:Int) (i:Int) (p,()) z1 (p.r.1,acc,())) (.h4 (zD db p) us ((ite ((us.take i).any (λu=>qD u us[i])=Z) n (n+lC db p us[i]):Nat):Int) ((i+1:Nat):Int) (p,()) z1 (p.r.1,(ite ((us.take i).any (λu=>qD u us[i])=Z) acc (acc++cA db p us[i])),())):=by
 have d:=Qo h m us[i];have c:mG p (zD db p) us[i]=Z:=by unfold mG;rw[d];rfl
 have a:qh p (zD db p) us[i]=(cA db p us[i],((lC db p us[i]:Nat):Int)):=by unfold qh;rw[d];rfl
 have o:(cA db p us[i]).length<=200:=aV Fo (aV (List.length_filter_le _ _) h.rel.few);have j:lC db p us[i]<=200:=by
  have:=FP (db:=db) (p:=p) (v:=us[i]);have:(sQ db p us[i]).length<=(cN db p).2.length:=List.length_filter_le _ _;have:=h.rel.few;unfold lC;omega
 have b:K (N acc+(cA db p us[i]).length<=1073741824)=Z:=by simp;omega
 have e:Γ Δ ((n:Int)+((lC db p us[i]:Nat):Int))=((n+lC db p us[i]:Nat):Int):=by rw[fe];omega
 have⟨s,w,l⟩:=ztH (p:=p) (l1:=zD db p) (n:=n) (z1:=z1) (z2:=(p.r.1,acc,())) q x i (zR _);have g:zG Vc 1 (.h4 (zD db p) us (n:Int) (i:Int) (p,()) z1 (p.r.1,acc,())) (.h8 (zD db p) us (n:Int) (i:Int) ((0:Nat):Int) (p,()) z1 (p.r.1,acc,())):=zG.of (by
  simp only[Vc,Q8,zM x,zi];rfl)
 refine((g.trans l).trans (zG.of ?_)).mono S;rcases w with⟨rfl,rfl⟩|rfl
 .rw[List.take_zero,List.any_nil,zh sw,zh sw];simp only[Vc,Q8,zn,aN,zJ,zu x,zP _ _ x,c,a,b,e,zA,zi,zm];rw[zt 0 um]
 .cases z:(us.take i).any λu=>qD u us[i]with
  | true=>
   rw[zf rfl,zf rfl];simp only[Vc,Q8,zJ,zA,zi,zm];rw[zt i um]
  | false=>
   rw[zh sw,zh sw];simp only[Vc,Q8,zn,aN,zJ,zu x,zP _ _ x,c,a,b,e,zA,zi,zm];rw[zt i um]
theorem ka(h:aw db p)(us:zr)(x:us.Nodup):(us.flatMap (cA db p)).length<=200/\fg db p us<=200:=by have a:=RL (db:=db) (p:=p) us;have b:=zay (db:=db) (p:=p) us x;have:=h.rel.few;omega
theorem P9(h:aw db p)(m:jG db p)(z:N us<=1000):
  xM p (zD db p) us=Y ((p.r.1,mA (zO p.r.1.q.1) ((bZ us).flatMap (cA db p))),((fg db p (bZ us):Nat):Int),()):=by
 have A:(i9v p (zD db p) us).val=Y (.inl (.h4 (zD db p) us ((0:Nat):Int) ((0:Nat):Int) (p,()) ([],0,[],0,0,[],[],()) (p.r.1,[],()))):=rfl;have d:=zG.all (t:=Vc) 1002 (λi=>.h4 (zD db p) us ((fg db p (bZ (us.take i)):Nat):Int) (i:Int) (p,()) ([],0,[],0,0,[],[],()) (p.r.1,(bZ (us.take i)).flatMap (cA db p),())) (N us) λi s=>by
  have⟨j,l⟩:=ka h (bZ (us.take i)) (iR _);have x:=zzI (z1:=([],0,[],0,0,[],[],())) h m S s (n:=fg db p (bZ (us.take i))) S (acc:=(bZ (us.take i)).flatMap (cA db p)) S;have e:=r9 (us.take i) us[i];rw[O6]at e;rw[aQ s,e];cases o:(us.take i).any λu=>qD u us[i]with
  | true=>
   rw[o,zf rfl,zf rfl]at x;rw[zf rfl];exact x.mono S
  | false=>
   rw[o,zh sw,zh sw]at x;rw[zh sw,List.flatMap_append,List.flatMap_singleton];have y:fg db p (bZ (us.take i)++[us[i]])=fg db p (bZ (us.take i))+lC db p us[i]:=by
    unfold fg;rw[gm,List.sum_append];simp
   rw[y];exact x.mono S
 have⟨j,l⟩:=ka h (bZ us) (iR _);simp only[eF,List.take_zero]at d;have a:∀r∈(bZ us).flatMap (cA db p),rr p.r.1.q.1 r/\dI p.r.1=Z:=λr c=>by
  have⟨u,_,B⟩:=BI.1 c;exact(Fm h m r B).2
 generalize(bZ us).flatMap (cA db p)=rows at d j a|-;generalize fg db p (bZ us)=n at d l|-;have⟨E,F⟩:=zbE (rows:=rows) m.wf (λg=>by
  have⟨r,c⟩:=List.exists_mem_of_ne_nil _ g;exact(a r c).2) S λr c=>(a r c).1
 have b:∃r,zV Vc 1 (.h4 (zD db p) us (n:Int) (N us:Int) (p,()) ([],0,[],0,0,[],[],()) (p.r.1,rows,())) r/\aX r.2 [zl,zk] r.1=Y ((p.r.1,mA (zO p.r.1.q.1) rows),(n:Int),()):=by
  refine⟨_,zV.of (by
   simp only[Vc,Q8,zn,aN,zJ,E,F,zA,zi,zm];rfl),?_⟩
  show Y (((p.r.1.1,p.r.1.2.1,p.r.1.q.1,p.r.1.r.1,p.r.1.t.1,zw p.r.1.u),mA (zO p.r.1.q.1) rows),(n:Int),())=_;rw[zn]
 have⟨r,C,D⟩:=b;have:N us*1002<=1000*1002:=fM _ z;have w:zG Vc (N us*1002) (.h4 (zD db p) us ((0:Nat):Int) ((0:Nat):Int) (p,()) ([],0,[],0,0,[],[],()) (p.r.1,[],())) (.h4 (zD db p) us (n:Int) (N us:Int) (p,()) ([],0,[],0,0,[],[],()) (p.r.1,rows,())):=d;exact zz A (w.ends C) S D
end
section
variable {p:L zZ} {src:List (L zl)} {u:L R} {row:List (L R)} {rows:List (List (L R))}
theorem Uw(d:∀c∈p.t.1,zK c (N row)=Z)(g:N p.t.1<=1000):KH (p,src) row=Y (gO p row,()):=by
 have e:(zjo (p,src) row).val=Y (.inl (.h3 row p.t.1 (N p.t.1:Int) ((0:Nat):Int) [])):=rfl;have x:=zG.all (t:=Vb) 1 (λi=>.h3 row p.t.1 (N p.t.1:Int) (i:Int) ((p.t.1.take i).map λc=>zO c row)) (N p.t.1) λi h=>zG.of (by
  have a:=d _ (bh h);have b:K (((p.t.1.take i).map λc=>zO c row).length+[zO p.t.1[i] row].length<=1073741824)=Z:=by simp;omega
  simp only[Vb,Q8,zM h,zu h,zP _ _ h,a,zi];rw[zf b,zt i um,aQ h,gm];rfl)
 simp only[eF,List.take_zero,oG]at x;refine zz e (x.ends (zV.of (r:=(AV.vec 0,[AO.vec R (gO p row)])) ?_)) S rfl;simp only[Vb,Q8,zJ,zA,zm];rfl
theorem zeK(g:∀row∈rows,∀c∈p.t.1,zK c (N row)=Z)(j:N p.t.1<=1000)(m:N rows<=1000):KE (p,src) u rows=Y (rows.map (gO p),()):=by
 have l:(zue (p,src) u rows).val=Y (.inl (.h3 rows (N rows:Int) ((0:Nat):Int) ((p,src),()) [])):=rfl;have x:=zG.all (t:=zgB) 1 (λi=>.h3 rows (N rows:Int) (i:Int) ((p,src),()) ((rows.take i).map (gO p))) (N rows) λi h=>zG.of (by
  have a:=Uw (src:=src) (g _ (bh h)) j;have b:Ac (p,src) rows[i]=Z:=by unfold Ac;rw[a];rfl
  have e:Ix (p,src) rows[i]=gO p rows[i]:=by unfold Ix;rw[a];rfl
  have d:K (((rows.take i).map (gO p)).length+[gO p rows[i]].length<=1073741824)=Z:=by simp;omega
  simp only[zgB,Q8,zn,aN,zM h,zu h,zP _ _ h,b,e,zi];rw[zf d,zt i um,aQ h,gm];rfl)
 simp only[eF,List.take_zero,oG]at x;refine zz l (x.ends (zV.of (r:=(AV.vec 0,[AO.vec ze.sl (rows.map (gO p))])) ?_)) S rfl;simp only[zgB,Q8,zJ,zA,zm]
theorem zeJ{l b:zr}(m:N l<=1000)(o:N b<=1000):Tv [l,b]=Y (l++b,()):=by
 have d:(zjp [l,b]).val=Y (.inl (.h3 [l,b] 0 [l,b] 2 0)):=rfl;have w:Γ Δ (0+(N l:Int))=(N l:Int):=by rw[fe];omega
 have j:Γ Δ ((N l:Int)+(N b:Int))=((N l+N b:Nat):Int):=by rw[fe];omega
 have n:K (LT.lt (α:=Int) (N l:Int) 0)=M:=aC S;have e:K (LT.lt (α:=Int) ((N l+N b:Nat):Int) 0)=M:=aC S;have g:zG Kj 1 (.h3 [l,b] 0 [l,b] 2 0) (.h3 [l,b] (N l:Int) [l,b] 2 1):=zG.of (by
  show(br Z (chk Z (br (K (LT.lt (α:=Int) (Γ Δ (0+(N l:Int))) 0)) Tr.err (Tr.to (ov.h3 [l,b] (Γ Δ (0+(N l:Int))) [l,b] 2 1)))) _).val=_;rw[w,n];rfl)
 have h:zG Kj 1 (.h3 [l,b] (N l:Int) [l,b] 2 1) (.h3 [l,b] ((N l+N b:Nat):Int) [l,b] 2 2):=zG.of (by
  show(br Z (chk Z (br (K (LT.lt (α:=Int) (Γ Δ ((N l:Int)+(N b:Int))) 0)) Tr.err (Tr.to (ov.h3 [l,b] (Γ Δ ((N l:Int)+(N b:Int))) [l,b] 2 2)))) _).val=_;rw[j,e];rfl)
 have x:zG Kj 1 (.h3 [l,b] ((N l+N b:Nat):Int) [l,b] 2 2) (.h11 [l,b] 2 0 []):=zG.of (by
  show(br M _ (chk (K (LE.le (α:=Int) 0 ((N l+N b:Nat):Int))) (chk (K (LE.le (α:=Int) ((N l+N b:Nat):Int) 1000000)) (Tr.to (ov.h11 [l,b] 2 0 []))))).val=_;rw[zC (show LE.le (α:=Int) 0 ((N l+N b:Nat):Int) by omega),zC (show LE.le (α:=Int) ((N l+N b:Nat):Int) 1000000 by omega)];rfl)
 have a:zG Kj 1 (.h11 [l,b] 2 0 []) (.h11 [l,b] 2 1 l):=zG.of (by
  show(br Z (chk Z (chk (K (([]:zr).length+N l<=1073741824)) (Tr.to (ov.h11 [l,b] 2 1 ([]++l))))) _).val=_;rw[zC (show([]:zr).length+N l<=1073741824 by simp;omega)];rfl)
 have c:zG Kj 1 (.h11 [l,b] 2 1 l) (.h11 [l,b] 2 2 (l++b)):=zG.of (by
  show(br Z (chk Z (chk (K (N l+N b<=1073741824)) (Tr.to (ov.h11 [l,b] 2 2 (l++b))))) _).val=_;rw[zC (show N l+N b<=1073741824 by omega)];rfl)
 exact zz d (((((g.trans h).trans x).trans a).trans c).ends (zV.of (r:=(AV.vec 0,[AO.vec R (l++b)])) rfl)) S rfl
end
end
end Cad
