/- Units. -/
import Derived.Test.YtjdjldbhjmgmkaaGreatDoorM21
namespace Cad
open Go Go.Proofs
open List renaming length->Io,take->Qg,length->X
open IntKind renaming wrap->Γ,i64->Δ
open Tr renaming «to»->Q9,val->Q8
open Bool renaming true->O,false->S
open Option renaming none->Q2,some->M
open Decidable renaming decide->N,decide->Q0
open Int renaming toNat->Z
open List renaming getD->Y
open Tr (chk br re)
open AV (nils agg tup ptr kb)
open AV renaming sl->T,str->I
open Cad renaming zi->Q,ai->L,ow->W,ze->K,Sem->J
set_option maxHeartbeats 4000000
noncomputable section
structure SL (p:ao) (src:zS):Prop where
 names:src.map (λx:ae=>x.1.1)=bY p.2.1 p.q.1
 two:two src=O
 plan:bm (gL src) (jM p src)=(0,p)
 few:PQ (jM p src)
 short:∀x∈gL src,ii x
 cols:X p.r.1.2.1<=1000
 same:KX p p=O/\OG p p=O
variable {src:zS}
theorem nB(h:two src=O):0<X src/\X src<=2:=by
 match src,h with
 |[_],_=>simp
 |[_,_],_=>simp
variable {p:ao}
theorem zfz(h:SL p src):T4 p src=M (0,()):=by
 have⟨l,w⟩:=nB h.two;have x:(bY p.2.1 p.q.1).length=X src:=by rw[<-h.names,cW]
 have s:(ztA p src).val=M (.inl (.h6 src (bY p.2.1 p.q.1) src (X src:Int) ((0:Nat):Int) (p,()))):=by
  have e:((X src:Int)!=((bY p.2.1 p.q.1).length:Int))=S:=by rw[x];simp
  show(br ((X src:Int)!=((bY p.2.1 p.q.1).length:Int)) _ _).val=_;rw[e];rfl
 have n:=zH.all (t:=zf9) 1 (λi=>.h6 src (bY p.2.1 p.q.1) src (X src:Int) (i:Int) (p,())) (X src) λi b=>zH.of (by
  have o:(!((Y src i (Q zl)).1.1:zK)==(bY p.2.1 p.q.1).getD i (Q Sh.str))=S:=by
   rw[<-h.names,bx,bx,dK,af b];simp
  simp only[zf9,Q8,zO b,zx b,zx (show i<(bY p.2.1 p.q.1).length by omega),zj,aJ,o,zC,zm];rw[zu i um])
 have a:=zaS (p:=p) l h.cols;have d:RC p src=O:=by unfold RC;rw[a];rfl
 have g:zaR p src=jM p src:=by unfold zaR;rw[a];rfl
 have c:OF (gL src) (jM p src)=M ((bm (gL src) (jM p src)).2,(bm (gL src) (jM p src)).1,()):=zol h.short (by rw[I8];omega) h.few;rw[h.plan]at c;have j:zok (gL src) (jM p src)=O:=by unfold zok;rw[c];rfl
 have m:pOf (gL src) (jM p src)=(p,0):=by unfold pOf;rw[c];rfl
 refine zA s (n.ends (k:=1) (r:=(L 0,[])) (zU.of ?_)) W rfl;simp only[zf9,Q8,zM,zo,bh,d,g,j,m,h.two,h.same.1,h.same.2,zC,zm];simp[l,show X src<=1000 by omega]
theorem xn(h:SL p src):Fx p src=O/\RB p src=0:=by have:=zfz h;exact⟨by unfold Fx;rw[this];rfl,by unfold RB;rw[this];rfl⟩
def s50(db:zS)(n:List zK)(j i:Int)(x:ae):zS->dJ->nH
 |[],[]=>.h12 db n j i (x,())
 |[],b::r=>.h12b db n j i (x,()) (b::r)
 |a::l,[]=>.h12bb db n j i (x,()) (a::l)
 |a::l,b::r=>.h12bbb db n j i (x,()) (a::l) (b::r)
def R4(db:zS)(n:List zK)(j:Int):zS->nH
 |[]=>.h4 db n j
 |a::l=>.h4b db n j (a::l)
variable {db acc:zS}{n:List zK}{c:Int}{x:ae}
theorem zfT{g:dJ}{i:Nat}(b:i<X x.1.t.1)(o:X n<=1000)(j:X g<=1000)(m:i<=1000):
  (iv (s50 db n c (i:Int) x acc g)).val=M (.inl (s50 db n c ((i+1:Nat):Int) x acc (ite (aQ n (Y x.1.t.1 i (Q zG)).2=O) (g++[Y x.1.t.1 i (Q zG)]) g))):=by
 have⟨d,e⟩:=LD (l:=n) (s:=(Y x.1.t.1 i (Q zG)).2) W;cases acc with
 | nil=>
  cases g with
  | nil=>
   show(iv (.h12 _ _ _ _ _)).val=_;simp only[iv,Q8,zO b,zx b,zj,aJ,d,e];rw[zu i um];split
   .rw[zf sw];rfl
   .rfl
  | cons h r=>
   show(iv (.h12b _ _ _ _ _ _)).val=_;simp only[iv,Q8,zO b,zx b,zj,aJ,d,e];rw[zu i um];split
   .rw[zf (by simp at j|-;omega)];rfl
   .rfl
 | cons a l=>
  cases g with
  | nil=>
   show(iv (.h12bb _ _ _ _ _ _)).val=_;simp only[iv,Q8,zO b,zx b,zj,aJ,d,e];rw[zu i um];split
   .rw[zf sw];rfl
   .rfl
  | cons h r=>
   show(iv (.h12bbb _ _ _ _ _ _ _)).val=_;simp only[iv,Q8,zO b,zx b,zj,aJ,d,e];rw[zu i um];split
   .rw[zf (by simp at j|-;omega)];rfl
   .rfl
variable {j:Nat}
theorem zfS{g:dJ}(b:j<=1000)(h:X acc<=1000):
  (iv (s50 db n (j:Int) (X x.1.t.1:Int) x acc g)).val=M (.inl (R4 db n ((j+1:Nat):Int) (acc++[((x.1.1,x.1.2.1,x.1.q.1,x.1.r.1,g,x.1.u),x.2)]))):=by
 cases acc with
 | nil=>
  cases g with
  | nil=>
   show(iv (.h12 _ _ _ _ _)).val=_;simp only[iv,Q8,zM,zC,zm,zo];rw[zu j um,zf sw];rfl
  | cons c r=>
   show(iv (.h12b _ _ _ _ _ _)).val=_;simp only[iv,Q8,zM,zC,zm,zo];rw[zu j um,zf sw];rfl
 | cons a l=>
  cases g with
  | nil=>
   show(iv (.h12bb _ _ _ _ _ _)).val=_;simp only[iv,Q8,zM,zC,zm,zo];rw[zu j um,zf (by simp at h|-;omega)];rfl
  | cons c r=>
   show(iv (.h12bbb _ _ _ _ _ _ _)).val=_;simp only[iv,Q8,zM,zC,zm,zo];rw[zu j um,zf (by simp at h|-;omega)];rfl
theorem zow(e:X n<=1000)(d:j<=1000)(c:X acc<=1000)(g:X x.1.t.1<=1000):
  zH iv 1002 (s50 db n (j:Int) ((0:Nat):Int) x acc []) (R4 db n ((j+1:Nat):Int) (acc++[jP (aQ n) x])):=by
 have b:=zH.all (t:=iv) 1 (λi=>s50 db n (j:Int) (i:Int) x acc ((x.1.t.1.take i).filter λf:cw=>aQ n f.2)) (X x.1.t.1) λi a=>zH.of (by
  rw[zfT a e (be (List.length_filter_le _ _) sg) W];congr 3;rw[bE a,List.filter_append,bx,af a];cases h:aQ n (x.1.t.1[i]:cw).2<;>simp[h])
 simp only[List.take_zero,List.filter_nil,gB]at b;refine(b.trans (zH.of (zfS d c))).mono W
theorem za9(B:∀x∈db,ii x)(s:∀n∈bY p.2.1 p.q.1,LE.le (α:=Int) 0 (al db n)):FD p db=M (zI db p,O,()):=by
 have w:(zm3 p db).val=M (.inl (R4 db (bY p.2.1 p.q.1) ((0:Nat):Int) [])):=by
  simp only[zm3,zo,bh,Q8,uP,xt,zj];rfl
 have A:(bY p.2.1 p.q.1).length<=2:=by unfold bY;split<;>simp
 unfold zI;generalize bY p.2.1 p.q.1=h at w A s|-;have o:=zH.all (t:=iv) 1003 (λj=>R4 db h (j:Int) ((h.take j).map λn=>jP (aQ h) (aU db n))) (X h) λj c=>by
  have d:=s h[j] (bp c);have m:N (al db h[j]<0)=S:=by simpa using d
  have g:=eu d;have C:=B _ (oF d);have y:zH iv 1 (R4 db h (j:Int) ((h.take j).map λn=>jP (aQ h) (aU db n))) (s50 db h (j:Int) ((0:Nat):Int) (aU db h[j]) ((h.take j).map λn=>jP (aQ h) (aU db n)) []):=zH.of (by
   generalize((h.take j).map λn=>jP (aQ h) (aU db n))=acc;cases acc with
   | nil=>
    show(iv (.h4 _ _ _)).val=_;simp only[iv,Q8,zO c,zx c,zj,zW _ _ c,ek,m,g,zC,zm];rfl
   | cons a l=>
    show(iv (.h4b _ _ _ _)).val=_;simp only[iv,Q8,zO c,zx c,zj,zW _ _ c,ek,m,g,zC,zm];rfl)
  have z:=(y.trans (zow (x:=aU db h[j]) W W sg C.rf)).mono (b:=1003) W;show zH iv 1003 _ (R4 db h ((j+1:Nat):Int) ((h.take (j+1)).map λn=>jP (aQ h) (aU db n)));rw[bE c,ib];exact z
 simp only[List.take_zero,rk,gB]at o;generalize F:(h.map λn=>jP (aQ h) (aU db n))=acc at o;have e:∃r,zU iv 1 (R4 db h (X h:Int) acc) r/\bb r.2 [zl.sl,Sh.bool] r.1=M (acc,O,()):=by
  cases acc with
  | nil=>
   refine⟨_,zU.of (by
    show(iv (.h4 _ _ _)).val=_;simp only[iv,Q8,zM,zC,zm];rfl),rfl⟩
  | cons a l=>
   refine⟨_,zU.of (by
    show(iv (.h4b _ _ _ _)).val=_;simp only[iv,Q8,zM,zC,zm];rfl),rfl⟩
 have⟨r,D,E⟩:=e;exact zA w (o.ends D) W E
def Cm(a b:zp):Bool:=a.1==b.1&&(a.2.1==b.2.1&&(a.q==b.q&&O))
variable {a h:zp}
theorem jF:Cm a h=O↔a=h:=by have⟨x,b,c⟩:=a;have⟨d,e,g⟩:=h;unfold Cm;simp
def Hr(a:Int)(v:zp)(row:zr):Bool:=bif Cm (Y row a.toNat (Q K)) v then v.1!=0 else S
variable {v:zp}{row:zr}
theorem nl:Hr c v row=O↔Y row c.toNat (Q K)=v/\v.1≠0:=by unfold Hr;rw[<-jF];cases Cm (Y row c.toNat (Q K)) v<;>simp
theorem N8(u:zp):∀l:zr,(vM u l).length<=X l+1
 |[]=>by simp[vM]
 | o::r=>by
  unfold vM;split
  .have:=N8 u r;simp only[fA];omega
  .split<;>simp
theorem NR:∀(l acc:zr),(l.foldl (λacc u=>if((u:zp).1==0)=O then acc else vM u acc) acc).length<=X acc+X l
 |[],acc=>by simp
 | u::r,acc=>by
  rw[List.foldl_cons];refine be (NR r _) ?_;split
  .simp
  .have:=N8 u acc;simp only[fA];omega
theorem XO(l:zr):(rl l).length<=X l:=by have:=NR l [];simpa[rl]using this
def JY(p:ao):Prop:=X p.r.1.2.1<=1000/\X p.r.1.r.1<=1000000/\X p.r.1.t.1<=1000000/\mR 16 p.r.1.u=O/\X p.t.1<=1000000
theorem pb:JY ls:=⟨aK _,aK _,aK _,rfl,aK _⟩
theorem vF(h:c=0->JY p):JY (iA c p).2:=by
 unfold iA;split
 .split
  .exact h (by assumption)
  .exact pb
 .exact pb
variable {e:zP}
theorem RF(db:zS)(x:PQ e):JY (bm db e).2:=by
 have b:=x.sh.names.1;unfold bm;split;rotate_left
 .exact pb
 split;rotate_left
 .exact pb
 unfold cJ;split
 .refine vF λ_=>⟨?_,aK _,aK _,x.cp,?_⟩
  .show(dN _ _).length<=_;unfold dN;rw[cW];omega
  .show(js _ _).length<=_;unfold js;rw[cW];omega
 split
 .refine vF λh=>?_
  have a:(ag db e.q.1).2.1.length+(eC db e.p).2.1.length<=9:=by
   unfold gj at h;split at h
   .cases h
   split at h;rotate_left
   .cases h
   split at h
   .cases h
   .omega
  have c:=mv (eC db e.p).q.1 (X (eC db e.p).2.1);refine⟨?_,aK _,aK _,x.cp,?_⟩
  .show(_++iS _ _).length<=_;unfold iS;rw[g9,cW];omega
  .show(nN _ _).length<=_;unfold nN;rw[cW];omega
 split
 .refine vF λ_=>⟨?_,aK _,aK _,x.cp,?_⟩
  .show(uk _ _).length<=_;unfold uk;simp
  .show(js _ _).length<=_;unfold js;rw[cW];omega
 .exact pb
def eH(db:zS)(p:ao):ae:=Y (zI db p) 0 (Q zl)
structure aH (db:zS) (p:ao):Prop where
 go:SL p (zI db p)
 rel:dV (eH db p)
 plc:yx p (zI db p)=M (dH p (zI db p),())
 inn:∀row∈(eH db p).2,zL (dH p (zI db p)) (X row)=O/\X row=X (eH db p).1.2.1
 fnd:∀n∈bY p.2.1 p.q.1,LE.le (α:=Int) 0 (al db n)
 mig:kF p.1
 col:LE.le (α:=Int) 0 (dH p (zI db p))/\LT.lt (α:=Int) (dH p (zI db p)) (X (eH db p).1.2.1)
theorem zaX(A:∀x∈db,ii x)(hp:(bm db e).1=0)(U:PQ e):aH db (bm db e).2:=by
  have⟨hm,D,hb,B,h8,o⟩:=xq hp;have⟨c1,c2,_,c4,c5,H⟩:=WW A hp U.sh;have hB:=(iZ A).1 hb;have⟨b1,b2,b3,b4,b5⟩:=RF db U;have m:=kN D;have y:(cJ db e).1=0:=by rw[<-o];exact hp
  have⟨f1,f2,f3⟩:=DF y;rw[o]at c1 c2 c4 c5 H b1 b2 b3 b4 b5|-;have C:∀n∈bY (cJ db e).q.1 (cJ db e).r.1,LE.le (α:=Int) 0 (al db n):=by rw[f2,f3];exact B
  have h0:LE.le (α:=Int) 0 (al db e.q.1):=B _ (by unfold bY;split<;>simp);have hx:eH db (cJ db e).2=jP (aQ (bY e.q.1 (cQ e))) (aU db e.q.1):=by
    unfold eH zI;rw[f2,f3];have:∃r,bY e.q.1 (cQ e)=e.q.1::r:=by unfold bY;split<;>exact⟨_,rfl⟩
    have⟨r,c⟩:=this;rw[c];rfl
  have z:dV (eH db (cJ db e).2):=by rw[hx];exact(hB.rels _ (kc h0).1).cut
  have l:(eH db (cJ db e).2).1.2.1=(ag db e.q.1).2.1:=by rw[hx];rfl
  have⟨m1,m2⟩:=zaQ (b:=(cJ db e).2) W b2 b3 b4 b5;have s:∀row∈(eH db (cJ db e).2).2,X row=X (eH db (cJ db e).2).1.2.1:=λrow G=>(cK (z.fits row G)).1
  have d : (LE.le (α:=Int) 0 (dH (cJ db e).2 (zI db (cJ db e).2))∧LT.lt (α:=Int) (dH (cJ db e).2 (zI db (cJ db e).2)) (Io (eH db (cJ db e).2).1.2.1))∧((cJ db e).2.1≠dD→(cJ db e).2.1≠gO→0 < Io (cJ db e).u.1):=by
    unfold dH;rw[f1];rcases hm with j|j|j
    · rw[zf j]
      refine⟨?_,λh=>zz j h⟩;have⟨k1,_⟩:=gR z.may;exact k1
    · have E:e.1≠dD:=by rw[j];decide
      rw[zh E,zf j];refine⟨?_,λ_ h=>zz j h⟩
      have c:(cJ db e)=iA (gj (ag db e.q.1) (eC db e.p) e.u.1 e.p)
          (e.1,e.q.1,e.p,(e.2.1,(ag db e.q.1).2.1++iS (eC db e.p) (X (eC db e.p).2.1),(ag db e.q.1).q.1,[],[],e.x.1),
            nN (eC db e.p).q.1 (X (eC db e.p).2.1),zY (ag db e.q.1) e.u.1):=by
        unfold cJ;rw[zh (by simpa using E),zf (by simp[j])]
      have e0:=y;rw[c]at e0;have⟨w,P⟩:=gh e0;have g:¬LT.lt (α:=Int) (zY (ag db e.q.1) e.u.1) 0:=by
        intro h4;unfold gj at w;rw[zf h4]at w;cases w
      have h6:(cJ db e).v=zY (ag db e.q.1) e.u.1:=by rw[c,P]
      show LE.le (α:=Int) 0 (cJ db e).v/\LT.lt (α:=Int) (cJ db e).v _;rw[h6,l];exact⟨W,(iT g).2⟩
    · have E:e.1≠dD:=by rw[j];decide
      have n2:e.1≠gO:=by rw[j];decide
      rw[zh E,zh n2];have c:(cJ db e)=iA (qP (ag db e.q.1) e.r.1) (e.1,e.q.1,e.p,(e.2.1,uk (ag db e.q.1) e.r.1,0,[],[],e.x.1),js (ag db e.q.1) e.r.1,0):=by
        unfold cJ;rw[zh (by simpa using E),zh (by simpa using n2),zf (by simp[j])]
      have e0:=y;rw[c]at e0;have⟨w,P⟩:=gh e0;have h7:gS (ag db e.q.1) e.r.1=0:=by
        unfold qP at w;split at w
        · assumption
        · exact w
      have g:=rQ h7;have h3:(cJ db e).u.1=js (ag db e.q.1) e.r.1:=by rw[c,P]
      have h2:=kD m j;rw[h3,l]
      match h5:e.r.1,h2 with
      | [a,b],_=>
        rw[h5]at g;have ha:=g a sw
        exact ⟨⟨by have:¬ LT.lt (α:=Int) (zY (ag db e.q.1) a) 0:=ha
                   show LE.le (α:=Int) 0 (zY (ag db e.q.1) a);omega,(iT ha).2⟩,λ_ _=>by simp[js]⟩
  have F:=nB H;refine⟨⟨c2,H,by rw[c1],by rw[c4];exact U,c5,b1,m1,m2.2 rfl⟩,z,Xc F.1 d.2,λrow G=>⟨?_,s row G⟩,C,by rw[f1];exact hm,d.1⟩;rw[s row G];unfold zL;rw[aP];have h1:=d.1.1;have h2:=d.1.2;exact⟨zB h1,zB W⟩
section
variable {db:List (J zl)} {p:J an}
theorem aH.pc(h:aH db p):lE p (zI db p)=O/\dp p (zI db p)=dH p (zI db p):=
 ⟨by unfold lE;rw[h.plc];rfl,by unfold dp;rw[h.plc];rfl⟩
theorem aH.at_mem(h:aH db p){row:zr}(a:row∈(eH db p).2):Y row (Z (dH p (zI db p))) (Q K)∈row:=by have x:=(h.inn row a).1;simp only[zL,aP,ba]at x;exact oG _ _ W
theorem aH.may(h:aH db p){x:zp}(b:x∈Mw p (zI db p)):bf x=O:=by obtain⟨row,a,rfl⟩:=aI.1 b;rw[h.pc.2];exact(cK (h.rel.fits row a)).2.1 _ (h.at_mem a)
theorem aH.all(h:aH db p):JK p (zI db p)=O:=by unfold JK;simp only[aP,ba,ep];refine⟨h.pc.1,zx (i:=0) (nB h.go.two).1,be h.rel.few W,λrow x=>⟨?_,h.may (aI.2 ⟨row,x,rfl⟩)⟩⟩;rw[h.pc.2];exact(h.inn row x).1
theorem aH.len(h:aH db p){row:zr}(x:row∈(eH db p).2):X row<=8:=by rw[(h.inn row x).2];exact(gR h.rel.may).r.1
theorem aH.few(_:aH db p):(ay p (zI db p)).length<=(eH db p).2.length:=by have:=XO (Mw p (zI db p));have e:(Mw p (zI db p)).length=(eH db p).2.length:=cW _;rw[e]at this;exact this
theorem aH.keys(h:aH db p)(b:p.1=dD):(Mw p (zI db p)).Nodup/\∀x∈Mw p (zI db p),x.1≠0:=by
 have d:dp p (zI db p)=(eH db p).1.q.1:=by
  rw[h.pc.2];unfold dH;rw[zf b];rfl
 have e:Mw p (zI db p)=(eH db p).2.map (zN (eH db p).1.q.1):=by
  unfold Mw;rw[d];rfl
 rw[e];refine⟨Ty h.rel.pw,λx j=>?_⟩;obtain⟨row,a,rfl⟩:=aI.1 j;have g:=(iH _).1 h.rel.may;have c:=h.rel.keys row a;simp only[zL,aP,ba]at c;exact(cK (h.rel.fits row a)).q _ W g.nn
theorem aH.is(h:aH db p)(v:zp):v∈ay p (zI db p)↔(eH db p).2.filter (Hr (dH p (zI db p)) v)≠[]:=by
 unfold ay;rw[(wq λx j=>h.may j).2];show _↔¬(eH db p).2.filter (Hr (dH p (zI db p)) v)=[];rw[List.filter_eq_nil_iff];constructor
 .rintro⟨j,b⟩ d;have⟨row,a,e⟩:=aI.1 j;rw[h.pc.2]at e;exact d row a (nl.2 ⟨e,b⟩)
 .intro d;have:∃row∈(eH db p).2,Hr (dH p (zI db p)) v row=O:=by
   refine kz λg=>d λrow a c=>g ⟨row,a,c⟩
  have⟨row,a,c⟩:=this;have⟨e,b⟩:=nl.1 c;refine⟨aI.2 ⟨row,a,?_⟩,b⟩;show Y row (Z (dp p (zI db p))) (Q K)=v;rw[h.pc.2];exact e
end
def RgV(v:zp):Prop:=LE.le (α:=Int) (-9223372036854775808) v.2.1/\LE.le (α:=Int) v.2.1 9223372036854775807
mutual
def Xh:zg->Prop
 |.mk _ v _ l=>RgV v/\JX l
def JX:List zg->Prop
 |[]=>True
 |e::r=>Xh e/\JX r
end
theorem JX.mem:∀{l:List zg},JX l->∀e∈l,Xh e
 |[],_,e,h=>by simp at h
 | x::r,h,e,a=>by
  rw[JX]at h;rcases bX.1 a with rfl|a
  .exact h.1
  .exact JX.mem h.2 e a
theorem lw.app:∀{a b:List zg},lw a->lw b->lw (a++b)
 |[],_,_,h=>h
 | x::r,b,h,hb=>by
  rw[lw]at h;rw[List.cons_append,lw];exact⟨h.1,h.2.app hb⟩
theorem PF(k:Nat)(s:zK)(h:k<=1000):(Qg (Z (k:Int)-Z 0) (List.drop (Z 0) s)).length<=1000000:=by simp;omega
theorem zal{n k:Nat}(h:¬N ((n:Int)>(k:Int))=O)(x:k<=1000):n<=1000000:=by
 have:¬(n:Int)>(k:Int):=by simpa using h
 omega
theorem lw.of:∀{l:List zg},(∀x∈l,vd x)->lw l
 |[],_=>by rw[lw];trivial
 |x::r,h=>by rw[lw];exact⟨h x sw,lw.of λy a=>h y (by simp[a])⟩
theorem Cy{e:zg}(h:Xh e):vd (iP e):=by
 have⟨r,m,d,g⟩:=KB (P:=λ_ e r=>Xh e->vd r) (λa e o t s l j _ z w b=>by
  have⟨B,v,C,A⟩:=e;rw[Xh]at b;rw[vd];exact⟨⟨b.1.1,b.1.2,by show X t<=_;omega⟩,W,lw.of λy q=>by
   have⟨x,n,c⟩:=j y q;exact c (b.2.mem x n)⟩) 16 e 14 80 W W W
 unfold iP;rw[zg.eta,show uj 16 e 14 80=(r,m) by unfold uj;rw[d];rfl];exact g h
theorem Gu(s:zK):(kf s).length<=1000000:=by
 unfold kf;split
 .exact PF 20 s W
 .exact zal (k:=20) (by assumption) W
theorem Z2(l:aV):(kH l).length<=9/\∀c∈kH l,X c.1<=1000000:=by refine⟨by show((Qg 9 l).map _).length<=9;rw[cW,rc];omega,λc h=>?_⟩;obtain⟨x,_,rfl⟩:=aI.1 h;exact Gu x.1
variable {t:am}
theorem zgi(h:Xh t.u):Dy (GQ t):=by
 have x:=Z2 t.2.1;refine⟨Gu _,x.2,be x.1 W,?_,?_,λf a=>?_,Cy h⟩
 .show(Qg 10 _).length<=_;rw[rc];omega
 .show((Qg 10 _).map _).length<=_;rw[cW,rc];omega
 .obtain⟨g,_,rfl⟩:=aI.1 a;exact Gu _
theorem zgp(h:RgV v):mb (HA v):=by
 unfold HA;split
 .exact⟨h.1,h.2,PF 60 v.q W⟩
 .exact⟨h.1,h.2,zal (k:=60) (by assumption) W⟩
theorem Oi{a:zr}(h:∀v∈a,RgV v):∀v∈oK a,mb v:=λv b=>by
 obtain⟨x,c,rfl⟩:=aI.1 b;exact zgp (h x (List.mem_of_mem_take c))
structure RgR (x:ae):Prop where
 chk:Xh x.1.u
 vals:∀r∈x.2,∀v∈(r:zr),RgV v
theorem Z0(h:RgR x):JZ (E4 x):=by
 have⟨rows,b,c⟩:=Oh x;have d:E4 x=(GQ x.1,rows):=by unfold E4;rw[c];rfl
 rw[d];refine⟨zgi h.chk,by show X rows<=1000;have:=b.1;omega,λr e v g=>?_⟩;obtain⟨j,a,rfl⟩:=b.2 r e;exact Oi (h.vals j a) v g
structure RgS (s:zP):Prop where
 chk:Xh s.x.1
 whr:Xh s.s.1
 row:∀v∈s.y.1,RgV v
 sets:∀x∈s.z.1,Xh (x:J je).2
theorem ZZ(h:RgS e):∃s:zP,Az e=M (s,())/\PQ s/\wk s:=by
 have⟨s,c,b,a⟩:=Rn e;refine⟨s,c,b,b.sh,?_,?_,b.cp,?_,?_,?_⟩
 .rw[a.chk];exact Cy h.chk
 .rw[a.whr];exact Cy h.whr
 .rw[a.whr];exact Ki _
 .rw[a.row];exact Oi h.row
 .intro x g;have⟨y,j,d⟩:=a.sets x g;rw[d];exact⟨Cy (h.sets y j),Ki _⟩
theorem zb3{o:Bool}(h:FD p db=M (src,o,())):CF p db=M (p,src,o,()):=by
 have c:RH p db=O:=by unfold RH;rw[h];rfl
 have x:za8 p db=(src,o):=by unfold za8;rw[h];rfl
 have e:p=(p.1,p.2.1,p.q.1,(p.r.1.1,p.r.1.2.1,p.r.1.q.1,p.r.1.r.1,p.r.1.t.1,zt p.r.1.u),p.t):=by rw[zo]
 refine(zR (i:=zmT p db) (t:=t0) (n:=100000000) (outs:=[an,zl.sl,Sh.bool]) (by
  simp only[zmT,zo,bh,Q8,c,x,zj];rfl) (y:=((p.1,p.2.1,p.q.1,(p.r.1.1,p.r.1.2.1,p.r.1.q.1,p.r.1.r.1,p.r.1.t.1,zt p.r.1.u),p.t),src,o,())) rfl).trans ?_
 rw[<-e]
theorem aH.uall(h:aH db p):Mv p (zI db p)=M (ay p (zI db p),0,()):=by have⟨c,x⟩:=xn h.go;refine zR (r:=(tup [T K (ay p (zI db p)),L 0],[])) ?_ rfl;simp only[ztk,zo,bh,Q8,c,x,h.all,fL,zC,zj,zm]
theorem zgr{a:zr}(v:zp)(q:X a<=1000000):UL a v=M (aj (Cm v) a 0,()):=by
 have j:(ztJ a v).val=M (.inl (.h2 a (X a:Int) ((0:Nat):Int) (v,()))):=rfl
 have b:∀k,k<=X a->(∀x∈a.take k,Cm v x=S)->zH W6 (k*1) (.h2 a (X a:Int) ((0:Nat):Int) (v,())) (.h2 a (X a:Int) (k:Int) (v,())):=λk e m=>
  zH.all (t:=W6) 1 (λi=>.h2 a (X a:Int) (i:Int) (v,())) k λi o=>zH.of (by
   have h:i<X a:=by omega
   have c:Cm v a[i]=S:=m _ (List.mem_take_iff_getElem.2 ⟨i,W,rfl⟩);unfold Cm at c;simp only[W6,Q8,zO h,zx h,zj,zW _ _ h,c,zC,zm];rw[zu i um])
 rcases eL (Cm v) a 0 with⟨g,d⟩|⟨k,e,g,d,l⟩
 .rw[g];refine zA j ((b (X a) (zQ _) (λx n=>d x (List.mem_of_mem_take n))).ends (zU.of (r:=(.int .i64 (-1),[])) ?_)) W rfl;simp only[W6,Q8,zM,zC,zm]
 .rw[g];refine zA j ((b k W l).ends (zU.of (r:=(.int .i64 (k:Int),[])) ?_)) W (by rw[eV];rfl);unfold Cm at d;simp only[W6,Q8,zO e,zx e,zj,zW _ _ e,d]
theorem zgq{l:zr}(v:zp)(b:X l<=1000000):PH l v=O/\HB l v=l.any (Cm v):=by
 have h:=zgr v b;have c:zcb l v=O:=by unfold zcb;rw[h];rfl
 have x:zoQ l v=aj (Cm v) l 0:=by unfold zoQ;rw[h];rfl
 have a:N (GE.ge (α:=Int) (aj (Cm v) l 0) 0)=l.any (Cm v):=by rw[ot,Av,List.any_eq_true]
 have:UK l v=M (l.any (Cm v),()):=by
  refine zR (r:=(.bool (l.any (Cm v)),[])) ?_ rfl;simp only[ztC,Q8,c,x,zj];rw[a]
 exact⟨by unfold PH;rw[this];rfl,by unfold HB;rw[this];rfl⟩
theorem Pg(v:zp)(h:dt x.1=O):LJ x v=O/\Ul x v=aj (λr=>bK r x.1.2.2.1 v) x.2 0:=by
 have:LK x v=M (aj (λr=>bK r x.1.2.2.1 v) x.2 0,()):=by
  refine zR (r:=(.int .i64 (aj (λr=>bK r x.1.2.2.1 v) x.2 0),[])) ?_ rfl;simp only[ztB,zo,bh,Q8,h,ce,zC,zm]
 exact⟨by unfold LJ;rw[this];rfl,by unfold Ul;rw[this];rfl⟩
theorem sV(h:zL c (X row)=O):bK row c v=O↔zN c row=v:=by simp only[zL,aP,ba]at h;unfold bK;rw[zB (show GE.ge (α:=Int) c 0 from h.1),zB (show LT.lt (α:=Int) c (X row:Int)from h.2),aN,aN];exact jF
theorem dV.find(h:dV x)(g:row∈x.2):
  ∃(k:Nat)(b:k<X x.2),aj (λr=>bK r x.1.2.2.1 (zN x.1.2.2.1 row)) x.2 0=(k:Int)/\x.2[k]=row:=by
 rcases eL (λr=>bK r x.1.2.2.1 (zN x.1.2.2.1 row)) x.2 0 with⟨_,d⟩|⟨k,b,n,d,_⟩
 .have:=d row g;rw[(sV (h.keys row g)).2 rfl]at this;cases this
 .refine⟨k,b,by rw[n,eV],?_⟩;have e:=(sV (h.keys _ (bp b))).1 d;obtain⟨j,l,rfl⟩:=fK g;by_cases c:k=j
  .subst c;rfl
  .have m:=List.pairwise_iff_getElem.1 (List.pairwise_map.1 (Ty h.pw));rcases Nat.lt_or_gt_of_ne c with a|a
   .exact zz e (m k j b l a)
   .exact zz e.symm (m j k l b a)
section
variable {db:List (J zl)} {p:J an}
theorem aH.has(h:aH db p){row:zr}(b:row∈(eH db p).2)(x:(zN (dH p (zI db p)) row).1≠0):zN (dH p (zI db p)) row∈ay p (zI db p):=by
 refine(h.is _).2 λa=>?_
 have:=List.filter_eq_nil_iff.1 a row b;exact this (nl.2 ⟨rfl,x⟩)
theorem aH.hasC(h:aH db p)(v:zp):PH (ay p (zI db p)) v=O/\(HB (ay p (zI db p)) v=O↔v∈ay p (zI db p)):=by
 have g:=h.few;have j:=h.rel.few;obtain⟨a,b⟩:=zgq (l:=ay p (zI db p)) v W;refine⟨a,?_⟩;rw[b,List.any_eq_true];constructor
 .rintro⟨x,d,e⟩;rw[jF.1 e];exact d
 .intro c;exact⟨v,c,jF.2 rfl⟩
def E3(db:zS)(p:ao)(v:zp):zp×Int:=
 if p.1=gO then
  let a:=aj (λr=>bK r (eH db p).1.2.2.1 v) (eH db p).2 0
  if LT.lt (α:=Int) a 0 then((0,0,[]),6)else
   let u:=zN p.t.2 (Y (eH db p).2 a.toNat (Q ze.sl))
   if HB (ay p (zI db p)) u=O then(u,0)else((0,0,[]),6)
 else if HB (ay p (zI db p)) v=O then(v,0)else((0,0,[]),6)
theorem aH.key(h:aH db p)(v:zp):UJ p (zI db p) v=M ((E3 db p v).1,(E3 db p v).2,()):=by
 obtain⟨n,o⟩:=xn h.go;have b:zL 0 (zI db p).length=O:=zx (i:=0) (nB h.go.two).1;have d:Y (zI db p) (Z 0) (Q zl)=eH db p:=rfl;obtain⟨y,w⟩:=Pg (x:=eH db p) v h.rel.may;by_cases m:p.1=gO
 .have l:(p.1==gO)=O:=by simpa using m
  have z:dH p (zI db p)=p.t.2:=by
   unfold dH;rw[zh (by rw[m];decide),zf m]
  unfold E3;rw[zf m];by_cases s:LT.lt (α:=Int) (aj (λr=>bK r (eH db p).1.2.2.1 v) (eH db p).2 0) 0
  .simp only[zf s];refine zR (r:=(tup [agg [L 0,L 0,I []],L 6],[])) ?_ rfl;simp only[Wc,zo,bh,Q8,n,o,l,b,d,y,w,fL,zC,zj,zm];rw[zf (zB s)]
  .simp only[zh s];rcases gP (λr=>bK r (eH db p).1.2.2.1 v) (eH db p).2 0 with e|⟨B,C⟩
   .rw[e]at s;omega
   .obtain⟨k,E⟩:∃k:Nat,aj (λr=>bK r (eH db p).1.2.2.1 v) (eH db p).2 0=(k:Int):=⟨_,(Int.toNat_of_nonneg B).symm⟩;rw[E]at s C w|-;have a:k<(eH db p).2.length:=by omega
    have g:=(h.inn _ (bp a)).1;rw[z]at g;obtain⟨q,D⟩:=h.hasC (zN p.t.2 (eH db p).2[k]);have A:N ((k:Int)<0)=S:=by simp
    rw[zW _ _ a];by_cases c:HB (ay p (zI db p)) (zN p.t.2 (eH db p).2[k])=O
    .rw[zf c];refine zR (r:=(tup [agg [L (zN p.t.2 (eH db p).2[k]).1,L (zN p.t.2 (eH db p).2[k]).2.1,I (zN p.t.2 (eH db p).2[k]).2.2],L 0],[])) ?_ rfl;simp only[Wc,zo,bh,Q8,n,o,l,b,d,y,w,A,zx a,zW _ _ a,g,h.all,q,c,fL,ce,zC,zj,zm]
    .rw[zh c];have j:=Bool.eq_false_iff.2 c;refine zR (r:=(tup [agg [L 0,L 0,I []],L 6],[])) ?_ rfl;simp only[Wc,zo,bh,Q8,n,o,l,b,d,y,w,A,zx a,zW _ _ a,g,h.all,q,j,fL,dj,zC,zj,zm]
 .have l:(p.1==gO)=S:=by simpa using m
  unfold E3;rw[zh m];obtain⟨q,D⟩:=h.hasC v;by_cases c:HB (ay p (zI db p)) v=O
  .rw[zf c];refine zR (r:=(tup [agg [L v.1,L v.2.1,I v.2.2],L 0],[])) ?_ rfl;simp only[Wc,zo,bh,Q8,n,o,l,h.all,q,c,fL,ce,zC,zj,zm]
  .rw[zh c];have j:=Bool.eq_false_iff.2 c;refine zR (r:=(tup [agg [L 0,L 0,I []],L 6],[])) ?_ rfl;simp only[Wc,zo,bh,Q8,n,o,l,h.all,q,j,fL,dj,zC,zj,zm]
theorem aH.mine(h:aH db p)(m:p.1≠pp){row:zr}(c:row∈(eH db p).2)(j:(zN (dH p (zI db p)) row).1≠0):
  E3 db p (zN (eH db p).1.2.2.1 row)=(zN (dH p (zI db p)) row,0):=by
 have b:=h.has c j;unfold E3;by_cases a:p.1=gO
 .have x:dH p (zI db p)=p.t.2:=by
   unfold dH;rw[zh (by rw[a];decide),zf a]
  rw[zf a];obtain⟨k,n,d,g⟩:=h.rel.find c;simp only[d];rw[zh W,zW _ _ n,g,<-x,zf ((h.hasC _).2.2 b)]
 .rw[zh a];have l:p.1=dD:=by
   rcases h.mig with e|e|e
   .exact e
   .exact zz e a
   .exact zz e m
  have x:dH p (zI db p)=(eH db p).1.2.2.1:=by
   unfold dH;rw[zf l];rfl
  rw[x]at b|-;rw[zf ((h.hasC _).2.2 b)]
end
def Fa(a b:zp):Bool:=!Q0 (GT.gt (α:=Int) (aG a b) 0)
theorem AJ(a:zp):aG a a=(0:Int):=by unfold aG;show Jg [ug (ak a).1 (ak a).1,ln (ak a).2.1 (ak a).2.1,px (ak a).q (ak a).q]=(0:Int);rw[<-Rq,zf sw]
theorem gQ(c:bf a=O)(d:bf h=O):Fa a h=O↔(ph a h\/a=h):=by
 unfold Fa ph;simp only[uA,ef];constructor
 .intro x;by_cases b:aG a h=(0:Int)
  .exact .inr (Ft c d b)
  .exact .inl (Int.lt_iff_le_and_ne.2 ⟨Int.not_lt.1 x,b⟩)
 .rintro(x|rfl)
  .exact Int.not_lt.2 (Int.le_of_lt x)
  .rw[AJ];exact Int.lt_irrefl _
theorem AD{c:zp}(b:bf a=O)(d:bf h=O)(e:bf c=O)(x:Fa a h=O)(g:Fa h c=O):Fa a c=O:=by
 rw[gQ b d]at x;rw[gQ d e]at g;rw[gQ b e];rcases x with x|rfl
 .rcases g with g|rfl
  .exact .inl (dZ x g)
  .exact .inl x
 .exact g
theorem AC(b:bf a=O)(c:bf h=O)(x:¬Fa a h=O):Fa h a=O:=by
 rw[gQ b c]at x;rw[gQ c b];simp only[not_or]at x;rcases lX b c x.1 with e|e
 .exact zz e x.2
 .exact .inl e
section
variable {α:Type} (k:α->J K)
def Cg(row:α)(l:List α):List α:=l.filter (λx=>Fa (k x) (k row))++row::l.filter (λx=>!Fa (k x) (k row))
def jj(l:List α):List α:=l.foldl (λacc row=>Cg k row acc) []
def qu(l:List α):Prop:=l.Pairwise λa b=>Fa (k a) (k b)=O
variable {k}
theorem Ym{row:α}:∀{l:List α},(∀x∈row::l,bf (k x)=O)->qu k l->∃m,m<=X l/\l.filter (λx=>Fa (k x) (k row))=l.take m/\l.filter (λx=>!Fa (k x) (k row))=l.drop m/\
   (∀i(h:i<X l),i<m->Fa (k l[i]) (k row)=O)/\(∀i(h:i<X l),m<=i->Fa (k l[i]) (k row)=S)
 |[],_,_=>⟨0,zQ _,rfl,rfl,λi h=>zz h (Nat.not_lt_zero i),λi h=>zz h (Nat.not_lt_zero i)⟩
 | a::r,hm,hr=>by
  have⟨g,j⟩:=List.pairwise_cons.1 hr;cases d:Fa (k a) (k row)with
  | true=>
   have⟨m,q,o,s,w,y⟩:=Ym (row:=row) (l:=r) (λx b=>hm x (by simp at b|-;rcases b with h|h<;>simp[h])) j;refine⟨m+1,by simpa using q,by simp[d,o],by simp[d,s],λi h e=>?_,λi h e=>?_⟩
   .cases i with
    |zero=>exact d
    |succ i=>exact w i (by simpa using h) W
   .cases i with
    |zero=>omega
    |succ i=>exact y i (by simpa using h) W
  | false=>
   have c:∀x∈r,Fa (k x) (k row)=S:=λx b=>by
    cases n:Fa (k x) (k row)with
    |false=>rfl
    |true=>rw[AD (hm a sw) (hm x (by simp[b])) (hm row sw) (g x b) n]at d;cases d
   refine⟨0,sw,?_,?_,λi h e=>by omega,λi h _=>?_⟩
   .rw[List.take_zero,List.filter_eq_nil_iff];intro x b;rcases bX.1 b with rfl|b
    .rw[d];simp
    .rw[c x b];simp
   .rw[List.drop_zero,List.filter_eq_self];intro x b;rcases bX.1 b with rfl|b
    .rw[d];rfl
    .rw[c x b];rfl
   .cases i with
    |zero=>exact d
    |succ i=>exact c _ (bp _)
theorem I0(row:α)(l:List α):(Cg k row l).Perm (row::l):=by unfold Cg;refine(List.perm_middle).trans (List.Perm.cons _ ?_);exact List.filter_append_perm _ _
theorem eI(l:List α):(jj k l).Perm l:=by
 have x:∀(l acc:List α),(l.foldl (λacc row=>Cg k row acc) acc).Perm (l++acc):=by
  intro l
  induction l with
  |nil=>intro acc;exact List.Perm.refl _
  |cons a r b=>intro acc;exact(b _).trans ((List.Perm.append_left r (I0 a acc)).trans List.perm_middle)
 have h:=x l [];rw[wn]at h;exact h
theorem I1{row:α}{l:List α}(a:∀x∈row::l,bf (k x)=O)(h:qu k l):qu k (Cg k row l):=by
 unfold Cg qu;rw[List.pairwise_append,List.pairwise_cons];refine⟨h.filter _,⟨λx d=>?_,h.filter _⟩,λx d y e=>?_⟩
 .have⟨c,b⟩:=List.mem_filter.1 d;exact AC (a x (by simp[c])) (a row sw) (by simpa using b)
 .have⟨c,b⟩:=List.mem_filter.1 d;rcases bX.1 e with rfl|e
  .exact b
  .have⟨g,j⟩:=List.mem_filter.1 e;exact AD (a x (by simp[c])) (a row sw) (a y (by simp[g])) b (AC (a y (by simp[g])) (a row sw) (by simpa using j))
end
def qt(k:Int)(r:zr):Prop:=zL k (X r)=O/\mb (zN k r)/\bf (zN k r)=O
section
variable {t:J ab} {rows acc:List (List (J K))} {i:Nat} {z1:zq uh}
theorem pG{α:Type}(l:List α)(d:α){i:Nat}(h:i<X l):l.getD i d=l[i]:=zW l d h
theorem Yq(l:Dy t)(e:dt t=O)(n:i<X rows)(g:qt t.q.1 rows[i])(s:∀r∈acc,qt t.q.1 r)(A:X acc<=1000000){m:Nat}
  (w:∀j(h:j<X acc),m<=j->Fa (zN t.q.1 acc[j]) (zN t.q.1 rows[i])=S):
  ∀d,m+d<=X acc->zH Cj d (.h6 (i:Int) ((m+d:Nat):Int) ((t,rows),()) z1 (t,acc,())) (.h6 (i:Int) (m:Int) ((t,rows),()) z1 (t,acc,()))
 |0,_=>zH.refl _
 | d+1,C=>by
  refine zH.trans (b:=d) (a:=1) ?_ (Yq l e n g s A w d W);have c:m+d<X acc:=by omega
  have⟨y,z,D⟩:=s _ (bp c);have x:=w (m+d) c W;unfold Fa at x;rw[Bool.not_eq_false']at x;have o:Γ Δ (((m+(d+1):Nat):Int)-1)=((m+d:Nat):Int):=gN (m+d) um;have B:N (((m+(d+1):Nat):Int)>0)=O:=by simp;omega
  refine zH.of ?_
  simp only[Cj,Q8,zo,bh,B,o,aN,zx c,zx n,pG _ _ c,pG _ _ n,aJ,zB c,oX l e y,oX l e g.1,
   tL l e y,tL l e g.1,vS z.q g.2.1.q,AQ z.q g.2.1.q,x,Bool.and_true,zj]
theorem zoI(g:Dy t)(d:dt t=O)(a:i<X rows)(hn:X rows<=1000000)(b:qt t.q.1 rows[i])(j:∀r∈acc,qt t.q.1 r)(hl:X acc<=1000000)(n:qu (zN t.q.1) acc):
  zH Cj (X acc+2) (.h3 (i:Int) ((t,rows),()) z1 (t,acc,())) (.h3 ((i+1:Nat):Int) ((t,rows),()) z1 (t,Cg (zN t.q.1) rows[i] acc,())):=by
 have⟨m,F,m2,m3,m4,m5⟩:=Ym (k:=zN t.q.1) (row:=rows[i]) (l:=acc) (λx o=>by
  rcases bX.1 o with rfl|o
  .exact b.q
  .exact(j x o).q) n
 have H:zH Cj 1 (.h3 (i:Int) ((t,rows),()) z1 (t,acc,())) (.h6 (i:Int) ((m+(X acc-m):Nat):Int) ((t,rows),()) z1 (t,acc,())):=zH.of (by
  rw[Nat.add_sub_cancel' F];simp only[Cj,Q8,zO a,zj])
 have P:=Yq (z1:=z1) g d a b j hl m5 (X acc-m) W;have U:zH Cj 1 (.h6 (i:Int) (m:Int) ((t,rows),()) z1 (t,acc,())) (.h3 ((i+1:Nat):Int) ((t,rows),()) z1 (t,Cg (zN t.q.1) rows[i] acc,())):=zH.of (by
  have s:N (0<=(m:Int))=O:=by simp
  have w:N ((m:Int)<=(X acc:Int))=O:=by simpa using F
  have y:N ((X acc:Int)<=(X acc:Int))=O:=by simp
  have z:Qg (m-Z 0) (List.drop (Z 0) acc)=acc.take m:=by simp
  have A:Qg (X acc-m) (List.drop m acc)=acc.drop m:=HQ sw;have G:=zu i um;have l1:N ((acc.take m).length<=1073741824)=O:=by simp;omega
  have D:N ((acc.take m).length+[rows[i]].length<=1073741824)=O:=by simp;omega
  have E:N ((acc.take m++[rows[i]]).length+(acc.drop m).length<=1073741824)=O:=by simp;omega
  have e:Cg (zN t.q.1) rows[i] acc=acc.take m++[rows[i]]++acc.drop m:=by unfold Cg;rw[m2,m3];simp
  rw[e];cases m with
  | zero=>
   simp only[Cj,Q8,zo,bh,show N (((0:Nat):Int)>0)=S from rfl,aL,zx a,pG _ _ a,aJ,z,A,l1,D,E,s,w,y,G,Bool.and_true,zC,zj,zm];rfl
  | succ m=>
   have c:m<X acc:=by omega
   have⟨B,C,k3⟩:=j _ (bp c);have h:=m4 m c W;unfold Fa at h;rw[uA]at h;have hp:N (((m+1:Nat):Int)>0)=O:=zB W;have w1:=gN m um
   simp only[Cj,Q8,zo,bh,hp,w1,aN,zx a,zx c,pG _ _ a,pG _ _ c,aJ,zB c,oX g d B,oX g d b.1,tL g d B,tL g d b.1,vS C.q b.2.1.q,AQ C.q b.2.1.q,h,
    z,A,l1,D,E,s,w,y,G,Bool.and_true,zC,zj,zm]
   rfl)
 exact((H.trans P).trans U).mono W
theorem WN(w:Dy t)(n:rows≠[]->dt t=O)(o:X rows<=1000)(j:∀r∈rows,qt t.q.1 r):C5 (t,rows)=M ((t,jj (zN t.q.1) rows),()):=by
 have s:(zty (t,rows)).val=M (.inl (.h3 ((0:Nat):Int) ((t,rows),()) ([],0,[],0,0,[],[],()) (t,[],()))):=rfl;have b:∀i,i<=X rows->(jj (zN t.q.1) (rows.take i)).length=i:=λi d=>by rw[(eI _).length_eq];simp;omega
 have c:∀i,∀r∈jj (zN t.q.1) (rows.take i),r∈rows:=λi r h=>List.mem_of_mem_take ((eI _).mem_iff.1 h)
 have a:∀i(h:i<X rows),jj (zN t.q.1) (rows.take (i+1))=Cg (zN t.q.1) rows[i] (jj (zN t.q.1) (rows.take i)):=λi h=>by
  unfold jj;rw[bE h,List.foldl_append];rfl
 have e:∀i,i<=X rows->qu (zN t.q.1) (jj (zN t.q.1) (rows.take i)):=by
  intro i
  induction i with
  |zero=>intro _;exact .nil
  | succ i y=>
   intro d;rw[a i d];refine I1 (λx l=>?_) (y W);rcases bX.1 l with rfl|l
   .exact(j _ (bp d)).q
   .exact(j x (c i x l)).q
 have m:=zH.all (t:=Cj) 1002 (λi=>.h3 (i:Int) ((t,rows),()) ([],0,[],0,0,[],[],()) (t,jj (zN t.q.1) (rows.take i),())) (X rows) λi d=>by
  rw[a i d];exact(zoI w (n (List.ne_nil_of_length_pos W)) d W (j _ (bp d)) (λr h=>j r (c i r h)) (by rw[b i W];omega) (e i W)).mono (by rw[b i W];omega)
 simp only[gB]at m;have g:∃r,zU Cj 1 (.h3 (X rows:Int) ((t,rows),()) ([],0,[],0,0,[],[],()) (t,jj (zN t.q.1) rows,())) r/\bb r.2 [zl] r.1=M ((t,jj (zN t.q.1) rows),()):=by
  refine⟨_,zU.of (by
   simp only[Cj,Q8,zM,zC,zm];rfl),?_⟩
  show M (((t.1,t.2.1,t.q.1,t.r.1,t.t.1,zt t.u),jj (zN t.q.1) rows),())=_;rw[zo]
 have⟨r,z,A⟩:=g;have:X rows*1002<=1000*1002:=f5 _ o;exact zA s (m.ends z) W A
theorem zbj(b:Dy t)(h:rows≠[]->dt t=O)(x:X rows<=1000)(a:∀r∈rows,qt t.q.1 r):Lr (t,rows)=O/\RV (t,rows)=(t,jj (zN t.q.1) rows):=by have:=WN b h x a;exact⟨by unfold Lr;rw[this];rfl,by unfold RV;rw[this];rfl⟩
end
structure jH (db:zS) (p:ao):Prop where
 wf:Dy p.r.1
 fr:JZ (eH db p)
 few:X p.t.1<=1000
 copy:p.1=dD->(∀c∈p.t.1,zL c (eH db p).1.2.1.length=O)/\∃(k:Nat)(h:k<X p.t.1),p.r.1.q.1=(k:Int)/\p.t.1[k]=(eH db p).1.q.1
 join:p.1=gO->p.r.1.q.1=(eH db p).1.q.1/\∃y:ae,zI db p=[eH db p,y]/\dV y/\JZ y/\(∀c∈p.t.1,zL c (X y.1.2.1)=O)/\∀row∈(eH db p).2,(zN p.u row).1≠0->ir y y.1.q.1 (zN p.u row)=O
 group:p.1=pp->p.r.1.q.1=0/\∃a b,p.t.1=[a,b]/\zL a (eH db p).1.2.1.length=O/\zL b (eH db p).1.2.1.length=O
theorem JZ.cut{q:zK->Bool}(h:JZ x):JZ (jP q x):=
 ⟨⟨h.t.name,h.t.cols,h.t.ncols,h.t.nuq,be (List.length_filter_le _ _) h.t.nrf,λf a=>h.t.refs f (List.mem_filter.1 a).1,h.t.chk⟩,h.rows,h.vals⟩
theorem Fz{a:zK}(h:¬LT.lt (α:=Int) (zY t a) 0):zL (zY t a) (X t.2.1)=O:=sX ⟨W,(iT h).2⟩
theorem S3(h:Dy t)(n:List zK):∀c∈dN t n,X (c:cF).1<=1000000:=by
 intro c a;obtain⟨s,_,rfl⟩:=aI.1 a;by_cases x:Z (zY t s)<X t.2.1
 .rw[bx,af x];exact h.cols _ (bp x)
 .rw[bx,fe W];exact aK _
theorem zaN{k:Int}{n:Nat}(h:j∈xm k n):j<n:=by unfold xm at h;simpa using(List.mem_filter.1 h).1
theorem znP(F:∀x∈db,JZ x)(hp:(bm db e).1=0)(B:wk e):jH db (bm db e).2:=by
 have⟨hm,h1,hb,U,x1,z⟩:=xq hp;have hB:=(iZ λx C=>(F x C).short).1 hb;have s:=kN h1;have y:(cJ db e).1=0:=by rw[<-z];exact hp
 have⟨H,f2,f3⟩:=DF y;rw[z];have h0:LE.le (α:=Int) 0 (al db e.q.1):=U _ (by unfold bY;split<;>simp);have C:eH db (cJ db e).2=jP (aQ (bY e.q.1 (cQ e))) (aU db e.q.1):=by
  unfold eH zI;rw[f2,f3];have:∃r,bY e.q.1 (cQ e)=e.q.1::r:=by unfold bY;split<;>exact⟨_,rfl⟩
  have⟨r,d⟩:=this;rw[d];rfl
 have hF:=F _ (kc h0).1;have D:JZ (eH db (cJ db e).2):=by rw[C];exact hF.cut
 have E:Dy (ag db e.q.1):=hF.t;rcases hm with n|n|n
 .have d:cJ db e=iA (ui (ag db e.q.1) e.r.1) (e.1,e.q.1,e.p,(e.2.1,dN (ag db e.q.1) e.r.1,iC (js (ag db e.q.1) e.r.1) (ag db e.q.1).q.1,[],[],e.x.1),js (ag db e.q.1) e.r.1,0):=by
   unfold cJ;rw[zf (by simp[n])]
  have e0:=y;rw[d]at e0;have⟨g,o⟩:=gh e0;unfold ui at g;split at g;rotate_left
  next h=>exact zz g h
  rename_i G;split at g
  .cases g
  rename_i hk;have m:=rQ G;refine⟨?_,D,(by rw[d,o];show(js _ _).length<=_;unfold js;rw[cW];have:=B.sh.names.1;omega),?_,(by rw[H,n];intro h;cases h),(by rw[H,n];intro h;cases h)⟩
  .rw[d,o];exact⟨be B.sh.table W,S3 E _,by show(dN _ _).length<=_;unfold dN;rw[cW];have:=B.sh.names.1;omega,aK _,aK _,λf P=>(by cases P),B.chk⟩
  .intro _;rw[C,d,o];refine⟨λc l=>?_,?_⟩
   .obtain⟨a,ha,rfl⟩:=aI.1 l;exact Fz (m a ha)
   .rcases E2 (js (ag db e.q.1) e.r.1) (ag db e.q.1).q.1 with⟨j,A,q1,q2,_⟩|⟨q1,_⟩
    .exact⟨j,A,q1,q2⟩
    .exact zz (by rw[q1];decide) hk
 .have d:cJ db e=iA (gj (ag db e.q.1) (eC db e.p) e.u.1 e.p)
     (e.1,e.q.1,e.p,(e.2.1,(ag db e.q.1).2.1++iS (eC db e.p) (X (eC db e.p).2.1),(ag db e.q.1).q.1,[],[],e.x.1),
      nN (eC db e.p).q.1 (X (eC db e.p).2.1),zY (ag db e.q.1) e.u.1):=by
   unfold cJ;rw[zh (by simp[n]),zf (by simp[n])]
  have e0:=y;rw[d]at e0;have⟨g,o⟩:=gh e0;have hr:=I3 s n;have h3:bY e.q.1 (cQ e)=[e.q.1,cQ e]:=by unfold bY;rw[zh (by simpa using hr)]
  have h4:LE.le (α:=Int) 0 (al db (cQ e)):=U _ (by rw[h3];simp);have x0:eC db e.p=(aU db (cQ e)).1:=by
   unfold eC;rw[zh hr];rfl
  have hU:=F _ (kc h4).1;rw[x0]at d g o;refine⟨?_,D,(by rw[d,o];show(nN _ _).length<=_;unfold nN;rw[cW];exact be (mv _ _) hU.t.ncols),(by rw[H,n];intro h;cases h),?_,(by rw[H,n];intro h;cases h)⟩
  .rw[d,o];refine⟨be B.sh.table W,λc l=>?_,?_,aK _,aK _,λf P=>(by cases P),B.chk⟩
   .rcases cZ.1 l with l|l
    .exact E.cols c l
    .obtain⟨j,A,rfl⟩:=aI.1 l;have A:=zaN A;rw[bx,af A];exact hU.t.cols _ (bp A)
   .show(_++iS _ _).length<=1000;unfold gj at g;split at g
    .cases g
    split at g;rotate_left
    .cases g
    split at g
    .cases g
    rename_i h9;have:=mv (aU db (cQ e)).1.q.1 (aU db (cQ e)).1.2.1.length;unfold iS;rw[g9,cW];omega
  .intro _;have hs:zI db (cJ db e).2=[eH db (cJ db e).2,jP (aQ (bY e.q.1 (cQ e))) (aU db (cQ e))]:=by
    rw[C];unfold zI;rw[f2,f3,h3];rfl
   refine⟨?_,jP (aQ (bY e.q.1 (cQ e))) (aU db (cQ e)),hs,(hB.rels _ (kc h4).1).cut,hU.cut,?_,?_⟩
   .rw[C,d,o];rfl
   .rw[d,o];intro c l;obtain⟨j,A,rfl⟩:=aI.1 l;exact zx (zaN A)
   .have h8:((cJ db e).2).u=zY (ag db e.q.1) e.u.1:=by rw[d,o]
    have h6:jX (ag db e.q.1).t.1 (zY (ag db e.q.1) e.u.1,cQ e)=O:=by
     unfold gj at g;split at g
     .cases g
     split at g
     .assumption
     .cases g
    rw[C,h8];exact(hB.bound _ (kc h0).1 _ ((pI _ _).1 h6)).2
 .have d:cJ db e=iA (qP (ag db e.q.1) e.r.1) (e.1,e.q.1,e.p,(e.2.1,uk (ag db e.q.1) e.r.1,0,[],[],e.x.1),js (ag db e.q.1) e.r.1,0):=by
   unfold cJ;rw[zh (by simp[n]),zh (by simp[n]),zf (by simp[n])]
  have e0:=y;rw[d]at e0;have⟨g,o⟩:=gh e0;have G:gS (ag db e.q.1) e.r.1=0:=by
   unfold qP at g;split at g
   .assumption
   .exact g
  have m:=rQ G;have h2:=kD s n;refine⟨?_,D,(by rw[d,o];show(js _ _).length<=_;unfold js;rw[cW];omega),(by rw[H,n];intro h;cases h),(by rw[H,n];intro h;cases h),?_⟩
  .rw[d,o];refine⟨be B.sh.table W,λc l=>?_,(by show(2:Nat)<=1000;omega),aK _,aK _,λf P=>(by cases P),B.chk⟩;have w:=S3 E e.r.1;have hl:(dN (ag db e.q.1) e.r.1).length=2:=by unfold dN;rw[cW];exact h2
   generalize h5:dN (ag db e.q.1) e.r.1=cs at w hl
   match cs,hl with
   | [a,b],_=>
    have l:c∈uk (ag db e.q.1) e.r.1:=l;unfold uk at l;rw[h5]at l;rcases bX.1 l with rfl|l
    .exact w a sw
    .rw[ff]at l;subst l;exact w b sw
  .intro _;rw[C,d,o]
   match h7:e.r.1,h2 with
   | [a,b],_=>
    rw[h7]at m;exact⟨rfl,zY (ag db e.q.1) a,zY (ag db e.q.1) b,rfl,Fz (m a sw),Fz (m b sw)⟩
def eqR(a b:zr):Bool:=@decide (a=b) (Classical.propDecidable _)
theorem CA{a b:zr}:eqR a b=O↔a=b:=by unfold eqR;exact@decide_eq_true_iff _ (Classical.propDecidable _)
theorem WJ(a b:zr)(P:X a<=1000000):La a b=O/\RK a b=eqR a b:=by
 have:CR a b=some (eqR a b,()):=by
  by_cases C:X a=X b
  .have D:(zeO a b).val=M (.inl (.h4 a b ((0:Nat):Int))):=by
    simp only[zeO,Q8,C,fL,zC,zm];rfl
   have l:∀k,k<=X a->(∀i(h:i<k),a[i]?=b[i]?)->zH WY (k*1) (.h4 a b ((0:Nat):Int)) (.h4 a b (k:Int)):=λk z A=>
    zH.all (t:=WY) 1 (λi=>.h4 a b (i:Int)) k λi y=>zH.of (by
     have c:i<X a:=by omega
     have g:i<X b:=by omega
     have e:=A i y;rw[af c,af g]at e;have x:Cm a[i] b[i]=O:=jF.2 (Option.some.inj e);unfold Cm at x;simp only[WY,Q8,zO c,zx c,zx g,zj,zW _ _ c,zW _ _ g,x,ce,zC,zm];rw[zu i um])
   by_cases o:a=b
   .rw[CA.2 o];refine zA D ((l (X a) (zQ _) (λi _=>by rw[o])).ends (zU.of (r:=(.kb O,[])) ?_)) W rfl;simp only[WY,Q8,zM,zC,zm]
   .have s:eqR a b=S:=Bool.eq_false_iff.2 λh=>o (CA.1 h)
    rw[s];have w:∃i,a[i]?≠b[i]?:=kz λB=>o (oo λi=>kz λh=>B ⟨i,h⟩)
    obtain⟨k,z,G⟩:∃k,a[k]?≠b[k]?/\∀i,i<k->a[i]?=b[i]?:=by
     have⟨n,A⟩:=w
     induction n using Nat.strongRecOn with
     | ind n H=>
      by_cases h:∃m,m<n/\a[m]?≠b[m]?
      .have⟨m,E,q⟩:=h;exact H m E q
      .exact⟨n,A,λi y=>kz λq=>h ⟨i,y,q⟩⟩
    have d:k<X a:=by
     refine kz λh=>z ?_
     rw[fe W,fe W]
    have j:k<X b:=by omega
    have x:Cm a[k] b[k]=S:=Bool.eq_false_iff.2 λh=>z (by rw[af d,af j,jF.1 h])
    unfold Cm at x;refine zA D ((l k W G).ends (zU.of (r:=(.kb S,[])) ?_)) W rfl;simp only[WY,Q8,zO d,zx d,zx j,zj,zW _ _ d,zW _ _ j,x,dj]
  .have s:eqR a b=S:=Bool.eq_false_iff.2 λh=>C (by rw[CA.1 h])
   have F:((X a:Int)!=(X b:Int))=O:=by simp;omega
   rw[s];refine zR (r:=(.kb S,[])) ?_ rfl;simp only[zeO,Q8,F,zj]
 exact⟨by unfold La;rw[this];rfl,by unfold RK;rw[this];rfl⟩
theorem O4{l:List zr}(d:X l<=1000000)(a:∀r∈l,X r<=1000000):Lp l l=O/\RU l l=O:=by
 have:C2 l l=M (O,()):=by
  have b:(zmR l l).val=M (.inl (.h4 l l ((0:Nat):Int))):=by
   simp only[zmR,Q8,fL,zC,zm];rfl
  have x:=zH.all (t:=zf8) 1 (λi=>.h4 l l (i:Int)) (X l) λi h=>zH.of (by
   have⟨c,q⟩:=WJ l[i] l[i] (a _ (bp h));rw[CA.2 rfl]at q;simp only[zf8,Q8,zO h,zx h,zj,zW _ _ h,c,q,ce,zC,zm];rw[zu i um])
  refine zA b (x.ends (zU.of (r:=(.kb O,[])) ?_)) W rfl;simp only[zf8,Q8,zM,zC,zm]
 exact⟨by unfold Lp;rw[this];rfl,by unfold RU;rw[this];rfl⟩
section
variable {db:List (J zl)} {p:J an}
end
def jx(p:ao)(row:zr):zr:=List.map (λc=>zN c row) p.t.1
def P0(p:ao)(s:zp)(row:zr):zp:=if(zN (Y p.t.1 (Z 1) (Q zk)) row).1=0 then s else qI s (zN (Y p.t.1 (Z 1) (Q zk)) row)
def GZ(src:zS):ae:=src.getD (Z 1) (Q zl)
def uL(p:ao)(src:zS)(v:zp)(row:zr):zr:=
 if p.1=gO then row++jx p (Y (GZ src).2 (aj (λr=>bK r (GZ src).1.q.1 v) (GZ src).2 0).toNat (Q ze.sl))else jx p row
def un(p:ao)(src:zS)(v:zp)(rows:List zr):List zr:=
 if p.1=pp then(ite (rows=[]) [] [[v,rows.foldl (P0 p) (1,0,[])]])else rows.map (uL p src v)
section
variable {db:List (J zl)} {p:J an} {l1:List (J zl)} {rows acc:List (List (J K))} {v:J K}
end
theorem OJ(a:Int)(rows:List zr):∀h:zr,h.Nodup->(∀u∈h,u.1≠0)->
  (h.map λu=>(rows.filter (Hr a u)).length).sum+(rows.filter λrow:zr=>!h.any λu:zp=>Hr a u row).length=X rows
 |[],_,_=>by simp
 | u :: h,hn,h0=>by
  rw[List.nodup_cons]at hn;have b:=OJ a rows h hn.2 λx m=>h0 x (mX _ m)
  rw[er,List.sum_cons];have n:(rows.filter (Hr a u)).length+(rows.filter λrow:zr=>!(u::h).any λu:zp=>Hr a u row).length=(rows.filter λrow:zr=>!h.any λu:zp=>Hr a u row).length:=by
   clear b
   induction rows with
   |nil=>rfl
   | cons row r b=>
    simp only[List.filter_cons,List.any_cons];cases d:Hr a u row with
    | true=>
     have g:(h.any λu:zp=>Hr a u row)=S:=by
      rw[List.any_eq_false];intro v l j;have e:=(nl.1 d).1;have c:=(nl.1 j).1;exact hn.1 (by rw[<-e,c];exact l)
     simp only[g,Bool.or_false,ce,dj,zj,zC,zm,fA]at b|-;simp only[List.any_cons]at b;omega
    | false=>
     simp only[Bool.false_or,zC,zm];simp only[List.any_cons]at b;cases(h.any λu:zp=>Hr a u row)with
     |true=>simpa using b
     | false=>
      simp only[dj,zj,fA];omega
  omega
section
variable {db:List (J zl)} {p:J an}
theorem aH.rise(h:aH db p):(ay p (zI db p)).Pairwise ph:=(wq λ_ a=>h.may a).1
theorem aH.nodup(h:aH db p):(ay p (zI db p)).Nodup:=by unfold List.Nodup;exact h.rise.imp λ{a b} x(e:a=b)=>eB (a:=b) (by rw[e]at x;exact x)
end
def uX(db:zS)(p:ao)(v:zp):List zr:=(eH db p).2.filter (Hr (dH p (zI db p)) v)
def bV(db:zS)(p:ao)(v:zp):List zr:=(un p (zI db p) v (uX db p v)).filter λr=>cR p.r.1 r==(0:Int)
theorem rq(h:zL c (X row)=O):zN c row∈row:=by
 have x:c.toNat<X row:=by
  unfold zL at h;simp only[aP,ba]at h;omega
 unfold zN;rw[bx,af x];exact bp x
theorem NS{p:ao}:∀(l:List zr)(s:zp),mb s->mb (l.foldl (P0 p) s)
 |[],_,h=>h
 | a::r,s,h=>NS r _ (by
  unfold P0;split
  .exact h
  .exact MV _ _)
section
variable {db:List (J zl)} {p:J an} {v:J K}
theorem wb{row:zr}(h:row∈uX db p v):row∈(eH db p).2/\zN (dH p (zI db p)) row=v/\v.1≠0:=⟨(List.mem_filter.1 h).1,nl.1 (List.mem_filter.1 h).2⟩
theorem KS:(un p (zI db p) v (uX db p v)).length<=(uX db p v).length:=by
 unfold un;split
 .split
  .simp
  next h=>have:=List.length_pos_iff.2 h;simp;omega
 .simp
theorem zgu(_:aH db p)(m:jH db p)(d:p.1=gO){row:zr}(l:row∈uX db p v):
  ∃y:ae,zI db p=[eH db p,y]/\dV y/\JZ y/\(∀c∈p.t.1,zL c (X y.1.2.1)=O)/\Y (GZ (zI db p)).2 (aj (λr=>bK r (GZ (zI db p)).1.q.1 v) (GZ (zI db p)).2 0).toNat (Q ze.sl)∈y.2:=by
 have⟨_,y,g,z,B,w,A⟩:=m.join d;have⟨o,j,s⟩:=wb l;have a:dH p (zI db p)=p.u:=by unfold dH;rw[zh (by rw[d];decide),zf d]
 have n:GZ (zI db p)=y:=by rw[g];rfl
 have x:=A _ o (by rw[<-a,j];exact s);rw[<-a,j]at x;refine⟨y,g,z,B,w,?_⟩;rw[n];rcases eL (λr=>bK r y.1.q.1 v) y.2 0 with⟨e,_⟩|⟨k,b,e,C,_⟩
 .unfold ir at x;rw[e]at x;exact zz x (by decide)
 .rw[eV]at e;rw[e,zW _ _ b];exact bp b
theorem znQ(h:aH db p)(m:jH db p):∀r∈un p (zI db p) v (uX db p v),∀x∈r,mb x:=by
 intro r d x b;unfold un at d;split at d
 .split at d
  .cases d
  .rename_i n;rw[ff]at d;subst d;rcases bX.1 b with rfl|b
   .have⟨row,a⟩:=List.exists_mem_of_ne_nil _ n;have⟨q,o,_⟩:=wb a;rw[<-o];exact m.fr.vals _ q _ (rq (h.inn _ q).1)
   .rw[ff]at b;subst b;exact NS _ _ ⟨by decide,by decide,aK _⟩
 .rename_i w;obtain⟨row,a,rfl⟩:=aI.1 d;have⟨q,o,_⟩:=wb a;unfold uL at b;split at b
  .rename_i l;have⟨y,_,A,B,z,s⟩:=zgu h m l a;rcases cZ.1 b with b|b
   .exact m.fr.vals _ q _ b
   .obtain⟨c,g,rfl⟩:=aI.1 b;refine B.vals _ s _ (rq ?_);rw[(cK (A.fits _ s)).1];exact z c g
  .rename_i l;obtain⟨c,g,rfl⟩:=aI.1 b;have j:p.1=dD:=by
    rcases h.mig with e|e|e
    .exact e
    .exact zz e l
    .exact zz e w
   refine m.fr.vals _ q _ (rq ?_);rw[(h.inn _ q).2];exact(m.copy j).1 c g
theorem NW:(bV db p v).length<=(uX db p v).length:=be (List.length_filter_le _ _) KS
theorem oH(h:aH db p)(m:jH db p):∀r∈bV db p v,cR p.r.1 r=(0:Int)/\qt p.r.1.q.1 r/\dt p.r.1=O:=by
 intro r j;have⟨e,x⟩:=List.mem_filter.1 j;have x:cR p.r.1 r=(0:Int):=by simpa using x
 have⟨c,d,_⟩:=cK x;have b:dt p.r.1=O:=by
  cases g:dt p.r.1 with
  |true=>rfl
  | false=>
   unfold cR at x;rw[g,zf LY]at x;cases x
 have a:zL p.r.1.q.1 (X r)=O:=by rw[c];exact sX (gR b).1
 exact⟨x,⟨a,znQ h m r e _ (rq a),d _ (rq a)⟩,b⟩
end
set_option maxRecDepth 100000
section
variable {db:List (J zl)} {p:J an} {us:List (J K)}
end
section
variable {db:List (J zl)} {p:J an} {v:J K}
theorem Ng{c:Int}{a b:zr}(h:zL c (X a)=O):zN c (a++b)=zN c a:=by
 have x:c.toNat<X a:=by
  unfold zL at h;simp only[aP,ba]at h;omega
 unfold zN;rw[bx,bx,qK x]
theorem zfQ{x:ae}(h:dV x){a b:zr}(l:a∈x.2)(m:b∈x.2)(e:zN x.1.q.1 a=zN x.1.q.1 b):a=b:=by
 have g:=(iH _).1 h.may;have d:∀r∈x.2,(zN x.1.q.1 r).1≠0:=λr y=>by
  have⟨z,_,w⟩:=cK (h.fits r y);refine w _ ?_ g.nn;have A:=g.key.1;have B:=g.key.2;omega
 obtain⟨i,n,rfl⟩:=fK l;obtain⟨j,o,rfl⟩:=fK m;have s:=List.pairwise_iff_getElem.1 h.key;rcases Nat.lt_trichotomy i j with c|c|c
 .exact zz e (s i j n o c (d _ l))
 .subst c;rfl
 .exact zz e.symm (s j i o n c (d _ m))
theorem Rl(h:aH db p)(m:jH db p)(A:v∈ay p (zI db p)){r:zr}(c:r∈un p (zI db p) v (uX db p v)):E3 db p (zN p.2.2.2.1.2.2.1 r)=(v,0):=by
 have x:=(h.hasC v).2.2 A;unfold un at c;split at c
 .rename_i n;split at c
  .cases c
  rw[ff]at c;subst c;obtain⟨k0,_⟩:=m.group n;rw[k0];unfold E3;rw[zh (by rw[n];decide)];show(ite (HB (ay p (zI db p)) v=O) (v,(0:Int)) _)=_;rw[zf x]
 .rename_i n;obtain⟨row,l,rfl⟩:=aI.1 c;obtain⟨q,w,D⟩:=wb l;unfold uL;split
  .rename_i b;obtain⟨k0,_⟩:=m.join b;have g:=h.rel.keys _ q;rw[k0,Ng g];have a:dH p (zI db p)=p.t.2:=by unfold dH;rw[zh (by rw[b];decide),zf b]
   unfold E3;rw[zf b];rcases eL (λr=>bK r (eH db p).1.2.2.1 (zN (eH db p).1.2.2.1 row)) (eH db p).2 0 with⟨_,o⟩|⟨k,j,s,o,_⟩
   .have:=o _ q;rw[(sV g).2 rfl]at this;cases this
   .rw[eV]at s;have z:(eH db p).2[k]=row:=zfQ h.rel (bp j) q ((sV (h.rel.keys _ (bp j))).1 o);simp only[s];rw[zh W,zW _ _ j,z,<-a,w,zf x]
  .rename_i b;have d:p.1=dD:=by
    rcases h.mig with e|e|e
    .exact e
    .exact zz e b
    .exact zz e n
   obtain⟨_,k,j,B,C⟩:=m.copy d;have a:dH p (zI db p)=(eH db p).1.2.2.1:=by unfold dH;rw[zf d];rfl
   have y:zN p.2.2.2.1.2.2.1 (jx p row)=v:=by
    rw[B];unfold zN jx;rw[aJ,bx,dK,af j,C,<-a,<-w];rfl
   rw[y];unfold E3;rw[zh b,zf x]
end
section
variable {db:List (J zl)} {p:J an} {v:J K}
theorem Oq(h:aH db p)(m:jH db p)(b:¬p.1=pp){row:zr}(d:row∈(eH db p).2):zN p.r.1.q.1 (uL p (zI db p) v row)=zN (eH db p).1.q.1 row:=by
 unfold uL;split
 next a=>have⟨k0,_⟩:=m.join a;rw[k0,Ng (h.rel.keys _ d)]
 .rename_i a;have x:p.1=dD:=by
   rcases h.mig with e|e|e
   .exact e
   .exact zz e a
   .exact zz e b
  have⟨_,k,c,g,j⟩:=m.copy x;rw[g];unfold zN jx;rw[aJ,bx,dK,af c,j];rfl
def qT(k:Int)(l:List zr):Prop:=l.Pairwise λa b=>zN k a≠zN k b
theorem WR{x:ae}(h:dV x):qT x.1.q.1 x.2:=by
 refine List.pairwise_iff_getElem.2 λi j d l b e=>?_
 have a:=(iH _).1 h.may;have⟨m,_,g⟩:=cK (h.fits _ (bp d));have c:(zN x.1.q.1 x.2[i]).1≠0:=by
  refine g _ ?_ a.nn;have n:=a.key.1;have o:=a.key.2;omega
 exact List.pairwise_iff_getElem.1 h.key i j d l b c e
theorem Rb(h:aH db p)(m:jH db p):qT p.r.1.q.1 (bV db p v):=by
 refine List.Pairwise.sublist List.filter_sublist ?_;unfold un;split
 .split
  .exact .nil
  .exact List.pairwise_singleton _ _
 .rename_i c;refine List.pairwise_map.2 ?_;refine((WR h.rel).sublist (List.filter_sublist (p:=Hr (dH p (zI db p)) v))).imp_of_mem λ{a b} d e x=>?_
  rw[Oq h m c (List.mem_filter.1 d).1,Oq h m c (List.mem_filter.1 e).1];exact x
theorem nD(h:aH db p)(m:jH db p):∀{us:zr},us.Nodup->(∀u∈us,u∈ay p (zI db p))->qT p.r.1.q.1 (us.flatMap (bV db p))
 |[],_,_=>.nil
 | a::r,hn,hu=>by
  rw[List.flatMap_cons];refine List.pairwise_append.2 ⟨Rb h m,nD h m (List.nodup_cons.1 hn).2 (λu q=>hu u (mX _ q)),λx g y j e=>?_⟩;have⟨u,c,l⟩:=wl.1 j;have b:=Rl h m (hu a uz) (List.mem_filter.1 g).1;have d:=Rl h m (hu u (mX _ c)) (List.mem_filter.1 l).1;rw[e,d]at b;have:u=a:=congrArg Prod.fst b;subst this;exact(List.nodup_cons.1 hn).1 c
variable {l:List zr}
theorem HZ{k:Int}(h:qT k l){a b:zr}(g:a∈l)(m:b∈l)(e:zN k a=zN k b):a=b:=by
 obtain⟨i,x,rfl⟩:=fK g;obtain⟨j,d,rfl⟩:=fK m;rcases Nat.lt_trichotomy i j with c|c|c
 .exact zz e (List.pairwise_iff_getElem.1 h i j x d c)
 .subst c;rfl
 .exact zz e.symm (List.pairwise_iff_getElem.1 h j i d x c)
theorem P2{k:Int}{x:List zr}(a:l.Perm x)(h:qT k l):qT k x:=(a.pairwise_iff λq e=>q e.symm).1 h
end
def qM(db:zS)(p:ao)(v:zp):Nat:=(un p (zI db p) v (uX db p v)).length-(bV db p v).length
def dY(l:zr):zr:=l.foldl (λacc a=>if acc.any (λu=>Cm u a)=O then acc else acc++[a]) []
def dl(db:zS)(p:ao)(us:zr):Nat:=(us.map (qM db p)).sum
theorem xj(l:zr)(a:zp):dY (l++[a])=if(dY l).any (λu=>Cm u a)=O then dY l else dY l++[a]:=by unfold dY;rw[List.foldl_append];rfl
theorem OC(l:zr)(a:zp):a∈dY l↔a∈l:=by
 have d:∀(n:Nat)(l:zr),X l=n->(a∈dY l↔a∈l):=by
  intro n
  induction n with
  |zero=>intro l c;rw[List.length_eq_zero_iff.1 c];exact Iff.rfl
  | succ n x=>
   intro l c;obtain⟨e,b,rfl⟩:∃e b,l=e++[b]:=⟨l.dropLast,l.getLast (List.ne_nil_of_length_pos W),(List.dropLast_concat_getLast _).symm⟩;have x:=x e (by simpa using c);rw[xj];split
   .rename_i h;have⟨u,g,j⟩:=List.any_eq_true.1 h;rw[jF.1 j]at g;rw[x,cZ,ff];refine⟨.inl,λh=>?_⟩;rcases h with h|rfl
    .exact h
    .refine x.1 ?_;exact g
   .rw[cZ,cZ,x]
 exact d _ l rfl
theorem zaK(l:zr)(a:zp):(dY l).any (λu=>Cm u a)=l.any (λu=>Cm u a):=by rw[ot,List.any_eq_true,List.any_eq_true];exact⟨λ⟨u,h,x⟩=>⟨u,(OC l u).1 h,x⟩,λ⟨u,h,x⟩=>⟨u,(OC l u).2 h,x⟩⟩
theorem pR(l:zr):(dY l).Nodup:=by
 have d:∀(n:Nat)(l:zr),X l=n->(dY l).Nodup:=by
  intro n
  induction n with
  |zero=>intro l c;rw[List.length_eq_zero_iff.1 c];exact List.nodup_nil
  | succ n a=>
   intro l c;obtain⟨g,b,rfl⟩:∃g b,l=g++[b]:=⟨l.dropLast,l.getLast (List.ne_nil_of_length_pos W),(List.dropLast_concat_getLast _).symm⟩;have a:=a g (by simpa using c);rw[xj];split
   .exact a
   next h=>rw[List.nodup_append];refine⟨a,sw,λx m y j e=>h ?_⟩;rw[ff]at j;subst j;exact List.any_eq_true.2 ⟨x,m,jF.2 e⟩
 exact d _ l rfl
theorem WC{a:zr}(h:a.Nodup):dY a=a:=by
 have d:∀(n:Nat)(a:zr),X a=n->a.Nodup->dY a=a:=by
  intro n
  induction n with
  |zero=>intro a x _;rw[List.length_eq_zero_iff.1 x];rfl
  | succ n j=>
   intro a x c;obtain⟨l,b,rfl⟩:∃l b,a=l++[b]:=⟨a.dropLast,a.getLast (List.ne_nil_of_length_pos W),(List.dropLast_concat_getLast _).symm⟩;rw[List.nodup_append]at c;rw[xj,j l (by simpa using x) c.1,zh];rw[List.any_eq_true];rintro⟨u,g,e⟩;exact c.q u g b sw (jF.1 e)
 exact d _ a rfl h
section
variable {db:List (J zl)} {p:J an} {v:J K} {us:List (J K)}
theorem Oy(h:v.1=0):uX db p v=[]:=List.filter_eq_nil_iff.2 λ_ _ x=>(nl.1 x).2 h
theorem znS(h:v.1=0):un p (zI db p) v (uX db p v)=[]:=by rw[Oy h];unfold un;split<;>rfl
theorem zeH:(bV db p v).length<=(un p (zI db p) v (uX db p v)).length:=List.length_filter_le _ _
theorem zab(us:zr)(d:us.Nodup):(us.map λu=>(un p (zI db p) u (uX db p u)).length).sum<=(eH db p).2.length:=by
 have b:∀l:zr,(l.map λu=>(un p (zI db p) u (uX db p u)).length).sum=((l.filter λu=>u.1!=0).map λu=>(un p (zI db p) u (uX db p u)).length).sum:=by
  intro l
  induction l with
  |nil=>rfl
  | cons a r x=>
   rw[er,List.sum_cons,List.filter_cons,x];by_cases h:a.1=0
   .rw[zh (by simpa using h),znS h];simp
   .rw[zf (by simpa using h),er,List.sum_cons]
 have c:∀l:zr,(l.map λu=>(un p (zI db p) u (uX db p u)).length).sum<=(l.map λu=>(uX db p u).length).sum:=by
  intro l
  induction l with
  |nil=>exact zQ _
  | cons a r x=>
   rw[er,List.sum_cons,er,List.sum_cons];have:=KS (db:=db) (p:=p) (v:=a);omega
 have g:=OJ (dH p (zI db p)) (eH db p).2 (us.filter λu=>u.1!=0) (d.filter _) λu e=>by simpa using(List.mem_filter.1 e).2
 rw[b];have:=c (us.filter λu=>u.1!=0);unfold uX at this|-;omega
theorem Rc(us:zr):(us.flatMap (bV db p)).length+dl db p us=(us.map λu=>(un p (zI db p) u (uX db p u)).length).sum:=by
 induction us with
 |nil=>rfl
 | cons a r h=>
  unfold dl at h|-;rw[List.flatMap_cons,g9,er,List.sum_cons,er,List.sum_cons,<-h];have:=zeH (db:=db) (p:=p) (v:=a);unfold qM;omega
end
section
variable {db:List (J zl)} {p:J an} {us:List (J K)}
theorem lO(h:aH db p)(us:zr)(x:us.Nodup):(us.flatMap (bV db p)).length<=200/\dl db p us<=200:=by have a:=Rc (db:=db) (p:=p) us;have b:=zab (db:=db) (p:=p) us x;have:=h.rel.few;omega
end
section
variable {p:J an} {src:List (J zl)} {u:J K} {row:List (J K)} {rows:List (List (J K))}
theorem T5(d:∀c∈p.t.1,zL c (X row)=O)(g:X p.t.1<=1000):J9 (p,src) row=M (jx p row,()):=by
 have e:(zi2 (p,src) row).val=M (.inl (.h3 row p.t.1 (X p.t.1:Int) ((0:Nat):Int) [])):=rfl;have x:=zH.all (t:=UE) 1 (λi=>.h3 row p.t.1 (X p.t.1:Int) (i:Int) ((p.t.1.take i).map λc=>zN c row)) (X p.t.1) λi h=>zH.of (by
  have a:=d _ (bp h);have b:N (((p.t.1.take i).map λc=>zN c row).length+[zN p.t.1[i] row].length<=1073741824)=O:=by simp;omega
  simp only[UE,Q8,zO h,zx h,zW _ _ h,a,zj];rw[zf b,zu i um,bE h,ib];rfl)
 simp only[gB,List.take_zero,rk]at x;refine zA e (x.ends (zU.of (r:=(AV.vec 0,[AO.vec K (jx p row)])) ?_)) W rfl;simp only[UE,Q8,zM,zC,zm];rfl
theorem zel(g:∀row∈rows,∀c∈p.t.1,zL c (X row)=O)(j:X p.t.1<=1000)(m:X rows<=1000):J6 (p,src) u rows=M (rows.map (jx p),()):=by
 have l:(ztO (p,src) u rows).val=M (.inl (.h3 rows (X rows:Int) ((0:Nat):Int) ((p,src),()) [])):=rfl;have x:=zH.all (t:=zge) 1 (λi=>.h3 rows (X rows:Int) (i:Int) ((p,src),()) ((rows.take i).map (jx p))) (X rows) λi h=>zH.of (by
  have a:=T5 (src:=src) (g _ (bp h)) j;have b:yH (p,src) rows[i]=O:=by unfold yH;rw[a];rfl
  have e:H3 (p,src) rows[i]=jx p rows[i]:=by unfold H3;rw[a];rfl
  have d:N (((rows.take i).map (jx p)).length+[jx p rows[i]].length<=1073741824)=O:=by simp;omega
  simp only[zge,Q8,zo,bh,zO h,zx h,zW _ _ h,b,e,zj];rw[zf d,zu i um,bE h,ib];rfl)
 simp only[gB,List.take_zero,rk]at x;refine zA l (x.ends (zU.of (r:=(AV.vec 0,[AO.vec ze.sl (rows.map (jx p))])) ?_)) W rfl;simp only[zge,Q8,zM,zC,zm]
theorem zek{a b:zr}(m:X a<=1000)(o:X b<=1000):S4 [a,b]=M (a++b,()):=by
 have e:(zi3 [a,b]).val=M (.inl (.h3 [a,b] 0 [a,b] 2 0)):=rfl;have w:Γ Δ (0+(X a:Int))=(X a:Int):=by rw[eK];omega
 have l:Γ Δ ((X a:Int)+(X b:Int))=((X a+X b:Nat):Int):=by rw[eK];omega
 have n:N (LT.lt (α:=Int) (X a:Int) 0)=S:=aC W;have j:N (LT.lt (α:=Int) ((X a+X b:Nat):Int) 0)=S:=aC W;have g:zH JJ 1 (.h3 [a,b] 0 [a,b] 2 0) (.h3 [a,b] (X a:Int) [a,b] 2 1):=zH.of (by
  show(br O (chk O (br (N (LT.lt (α:=Int) (Γ Δ (0+(X a:Int))) 0)) Tr.err (Q9 (oe.h3 [a,b] (Γ Δ (0+(X a:Int))) [a,b] 2 1)))) _).val=_;rw[w,n];rfl)
 have h:zH JJ 1 (.h3 [a,b] (X a:Int) [a,b] 2 1) (.h3 [a,b] ((X a+X b:Nat):Int) [a,b] 2 2):=zH.of (by
  show(br O (chk O (br (N (LT.lt (α:=Int) (Γ Δ ((X a:Int)+(X b:Int))) 0)) Tr.err (Q9 (oe.h3 [a,b] (Γ Δ ((X a:Int)+(X b:Int))) [a,b] 2 2)))) _).val=_;rw[l,j];rfl)
 have x:zH JJ 1 (.h3 [a,b] ((X a+X b:Nat):Int) [a,b] 2 2) (.h11 [a,b] 2 0 []):=zH.of (by
  show(br S _ (chk (N (LE.le (α:=Int) 0 ((X a+X b:Nat):Int))) (chk (N (LE.le (α:=Int) ((X a+X b:Nat):Int) 1000000)) (Q9 (oe.h11 [a,b] 2 0 []))))).val=_;rw[zB (show LE.le (α:=Int) 0 ((X a+X b:Nat):Int) by omega),zB (show LE.le (α:=Int) ((X a+X b:Nat):Int) 1000000 by omega)];rfl)
 have c:zH JJ 1 (.h11 [a,b] 2 0 []) (.h11 [a,b] 2 1 a):=zH.of (by
  show(br O (chk O (chk (N (([]:zr).length+X a<=1073741824)) (Q9 (oe.h11 [a,b] 2 1 ([]++a))))) _).val=_;rw[zB (show([]:zr).length+X a<=1073741824 by simp;omega)];rfl)
 have d:zH JJ 1 (.h11 [a,b] 2 1 a) (.h11 [a,b] 2 2 (a++b)):=zH.of (by
  show(br O (chk O (chk (N (X a+X b<=1073741824)) (Q9 (oe.h11 [a,b] 2 2 (a++b))))) _).val=_;rw[zB (show X a+X b<=1073741824 by omega)];rfl)
 exact zA e (((((g.trans h).trans x).trans c).trans d).ends (zU.of (r:=(AV.vec 0,[AO.vec K (a++b)])) rfl)) W rfl
end
section
variable {p:J an} {src:List (J zl)} {u:J K} {rows:List (List (J K))}
theorem Zo{c b:Int}(h:p.t.1=[c,b])(l:∀row∈rows,zL b (X row)=O)(n:X rows<=1000):Cv (p,src) u rows=M (ite (rows=[]) [] [[u,rows.foldl (P0 p) (1,0,[])]],()):=by
 by_cases x:rows=[]
 .subst x;exact zR (r:=(nils,[])) rfl rfl
 rw[zh x];have d:((X rows:Int)==0)=S:=by
  have:=List.length_pos_iff.2 x;rw[dX];omega
 have j:(zm8 (p,src) u rows).val=M (.inl (.h5 rows (X rows:Int) ((0:Nat):Int) ((p,src),()) (u,()) ((1,0,[]),()))):=by
  simp only[zm8,Q8,d,zC,zm];rfl
 have g:zL 1 (X p.t.1)=O:=by rw[h];rfl
 have e:Y p.t.1 (Z 1) (Q zk)=b:=by rw[h];rfl
 have a:=zH.all (t:=zgh) 1 (λi=>.h5 rows (X rows:Int) (i:Int) ((p,src),()) (u,()) ((rows.take i).foldl (P0 p) (1,0,[]),())) (X rows) λi m=>zH.of (by
  grind[zgh,Q8,zx,zW,bE,zu,aE,P0])
 simp only[gB,List.take_zero,List.foldl_nil]at a;refine zA j (a.ends (zU.of (r:=(T ze.sl [[u,rows.foldl (P0 p) (1,0,[])]],[])) ?_)) W rfl;grind[zgh,Q8]
end
section
variable {db:List (J zl)} {p:J an}
theorem Uu(h:aH db p){row:zr}(x:row∈(eH db p).2):X row<=1000:=be (h.len x) W
theorem ze6(h:aH db p)(m:jH db p)(B:p.1=gO)(u:zp){rows:List zr}(hR:∀row∈rows,row∈uX db p u)(z:X rows<=200):J8 (p,zI db p) u rows=M (rows.map (uL p (zI db p) u),()):=by
 have⟨_,y,o,yo,yw,yc,yr⟩:=m.join B;have a:∀row∈rows,X row<=1000/\ir y y.1.q.1 u=O:=λrow U=>by
  grind[wb,dH,Uu]
 have d:∀row,uL p (zI db p) u row=row++jx p (Y y.2 (aj (λr=>bK r y.1.q.1 u) y.2 0).toNat (Q ze.sl)):=λrow=>by
  unfold uL;rw[zf B,o];rfl
 have⟨F,G⟩:=Pg u yo.may;have e0:zL 1 (X (zI db p))=O:=by rw[o];rfl
 have w:Y (zI db p) (Z 1) (Q zl)=y:=by rw[o];rfl
 generalize zI db p=src at d e0 w|-;rcases eL (λr=>bK r y.1.q.1 u) y.2 0 with⟨l,_⟩|⟨k,n,l,_,_⟩
 .have P:rows=[]:=List.eq_nil_iff_forall_not_mem.2 λrow U=>by
   grind[ir]
  subst P;refine zR (r:=(nils,[])) ?_ rfl;grind[ze5,Q8,zo]
 .rw[eV]at l;have g:N (LT.lt (α:=Int) (k:Int) 0)=S:=aC W;have x:∀c∈p.t.1,zL c (X y.2[k])=O:=λc hc=>by
   grind[cK,dV.fits]
  have C:=T5 (src:=src) x m.few;have E:yH (p,src) y.2[k]=O:=by unfold yH;rw[C];rfl
  have s:H3 (p,src) y.2[k]=jx p y.2[k]:=by unfold H3;rw[C];rfl
  have j:(jx p y.2[k]).length<=1000:=by unfold jx;rw[cW];exact m.few
  have e:rows.map (uL p src u)=rows.map (λrow=>row++jx p y.2[k]):=List.map_congr_left λrow _=>by rw[d,l,zW _ _ n]
  rw[e];generalize jx p y.2[k]=b at s j|-;have hs:(ze5 (p,src) u rows).val=M (.inl (.h7 b rows (X rows:Int) ((0:Nat):Int) [])):=by
   simp only[ze5,Q8,zo,bh,e0,w,F,G,l,g,zx n,zW _ _ n,E,s,zC,zj,zm];rfl
  have A:=zH.all (t:=zgf) 1 (λi=>.h7 b rows (X rows:Int) (i:Int) ((rows.take i).map λrow=>row++b)) (X rows) λi H=>zH.of (by
   have D:=zek (a _ (bp H)).1 j;have d1:Yf [rows[i],b]=O:=by unfold Yf;rw[D];rfl
   have d2:zmm [rows[i],b]=rows[i]++b:=by unfold zmm;rw[D];rfl
   have d3:N (((rows.take i).map λrow=>row++b).length+[rows[i]++b].length<=1073741824)=O:=by simp;omega
   grind[zgf,Q8,zx,zW,zu,aE,bE])
  simp only[gB,List.take_zero,rk]at A;refine zA hs (A.ends (zU.of (r:=(AV.vec 0,[AO.vec ze.sl (rows.map λrow=>row++b)])) ?_)) W rfl;grind[zgf,Q8]
theorem Tm(h:aH db p)(m:jH db p)(u:zp){R:List zr}(q:∀row∈R,row∈uX db p u)(d:X R<=200):
  DH (p,zI db p) u R=M ((un p (zI db p) u R).filter (λr=>cR p.r.1 r==(0:Int)),(((un p (zI db p) u R).length-((un p (zI db p) u R).filter λr=>cR p.r.1 r==(0:Int)).length:Nat):Int),()):=by
 have l:(un p (zI db p) u R).length<=200:=by
  unfold un;split
  .split<;>simp
  .rw[cW];exact d
 have z:(ZF (p,zI db p) u R).val=M (.inl (.h5 0 (un p (zI db p) u R) ((un p (zI db p) u R).length:Int) ((0:Nat):Int) ((p,zI db p),()) [])):=by
  rcases h.mig with e|e|e
  .have x:=zel (src:=zI db p) (u:=u) (rows:=R) (λrow w c x=>by
    have⟨y,_⟩:=wb (q row w);rw[(h.inn _ y).2];exact(m.copy e).1 c x) m.few W
   have n:P4 (p,zI db p) u R=O:=by unfold P4;rw[x];rfl
   have o:XY (p,zI db p) u R=un p (zI db p) u R:=by
    unfold XY un;rw[x,zh (by rw[e];decide)];refine List.map_congr_left λrow _=>?_
    unfold uL;rw[zh (by rw[e];decide)]
   grind[ZF,Q8,zo]
  .have x:=ze6 h m e u q d;have n:P6 (p,zI db p) u R=O:=by unfold P6;rw[x];rfl
   have o:XZ (p,zI db p) u R=un p (zI db p) u R:=by
    unfold XZ un;rw[x,zh (by rw[e];decide)];rfl
   grind[ZF,Q8,zo]
  .have⟨_,a,b,g,F,D⟩:=m.group e;have x:=Zo (src:=zI db p) (u:=u) (rows:=R) g (λrow w=>by
    have⟨y,_⟩:=wb (q row w);rw[(h.inn _ y).2];exact D) W
   have n:J7 (p,zI db p) u R=O:=by unfold J7;rw[x];rfl
   have o:P5 (p,zI db p) u R=un p (zI db p) u R:=by
    unfold P5 un;rw[x,zf e];rfl
   have A:(p.1==dD)=S:=by rw[e];rfl
   have B:(p.1==gO)=S:=by rw[e];rfl
   have C:(p.1==pp)=O:=by rw[e];rfl
   simp only[ZF,Q8,zo,bh,A,B,C,n,o,zC,zj,zm];rfl
 generalize un p (zI db p) u R=rows at l z|-;have j:=zH.all (t:=zga) 1 (λi=>.h5 ((i-((rows.take i).filter λr=>cR p.r.1 r==(0:Int)).length:Nat):Int) rows (X rows:Int) (i:Int) ((p,zI db p),()) ((rows.take i).filter λr=>cR p.r.1 r==(0:Int))) (X rows) λi E=>zH.of (by
  have s:((rows.take i).filter λr=>cR p.r.1 r==(0:Int)).length<=i:=be (List.length_filter_le _ _) sg;rw[bE E,List.filter_append];generalize((rows.take i).filter λr=>cR p.r.1 r==(0:Int))=acc at s|-;grind[zga,Q8,zo,zx,zu,aE])
 simp only[gB,List.take_zero,List.filter_nil]at j;refine zA z (j.ends (zU.of (r:=(tup [AV.vec 0,L ((X rows-(rows.filter λr=>cR p.r.1 r==(0:Int)).length:Nat):Int)],[AO.vec ze.sl (rows.filter λr=>cR p.r.1 r==(0:Int))])) ?_)) W rfl;grind[zga,Q8]
theorem Zf(h:aH db p)(m:jH db p)(u:zp):DH (p,zI db p) u (uX db p u)=M (bV db p u,((qM db p u:Nat):Int),()):=Tm h m u (λ_ h=>h) (be (List.length_filter_le _ _) h.rel.few)
theorem zeC(h:aH db p)(m:jH db p)(u:zp):DH (p,zI db p) u []=M ([],0,()):=by grind[un,Tm]
theorem zca(h:aH db p)(u:zp):Mx p (zI db p) u=M (uX db p u,0,()):=by
 have⟨n,o⟩:=xn h.go;have w:=(nB h.go.two).1;have g:(zm2 p (zI db p) u).val=M (.inl (.h6 (dH p (zI db p)) (eH db p).2 ((eH db p).2.length:Int) ((0:Nat):Int) (u,()) [])):=by
  simp only[zm2,zo,bh,Q8,n,o,h.pc.1,h.pc.2,show zL 0 (zI db p).length=O from zx (i:=0) w,fL,zC,zj,zm];rfl
 have x:∀row∈(eH db p).2,zL (dH p (zI db p)) (X row)=O/\X row<=1000:=λrow m=>⟨(h.inn row m).1,Uu h m⟩
 have b:=h.rel.few;unfold uX;generalize(eH db p).2=l at g x b|-;generalize dH p (zI db p)=a at g x|-;have j:=zH.all (t:=zgc) 1 (λi=>.h6 a l (X l:Int) (i:Int) (u,()) ((l.take i).filter (Hr a u))) (X l) λi c=>zH.of (by
  have⟨y,z⟩:=x l[i] (bp c);have d:((l.take i).filter (Hr a u)).length<=200:=be (List.length_filter_le _ _) sg;rw[bE c,List.filter_append];generalize(l.take i).filter (Hr a u)=acc at d|-;have q:N (X acc+[l[i]].length<=1073741824)=O:=by simp;omega
  have e:N (X l[i]<=1073741824)=O:=by simp;omega
  simp only[zgc,Q8,zO c,zx c,zW _ _ c,y,q,e,zj];rw[zu i um];show(ite (Hr a u l[i]=O) _ _)=_;cases s:Hr a u l[i]<;>simp[s])
 simp only[gB,List.take_zero,List.filter_nil]at j;refine zA g (j.ends (zU.of (r:=(tup [AV.vec 0,L 0],[AO.vec ze.sl (l.filter (Hr a u))])) ?_)) W rfl;grind[zgc,Q8]
theorem X2(h:aH db p)(m:jH db p)(u:zp):Ka p (zI db p) u=M (bV db p u,((qM db p u:Nat):Int),0,()):=by
 have x:=zca h u;have a:=Zf h m u;have c:Sw p (zI db p) u=O:=by unfold Sw;rw[x];rfl
 have b:zb9 p (zI db p) u=(uX db p u,0):=by unfold zb9;rw[x];rfl
 have d:H2 (p,zI db p) u (uX db p u)=O:=by unfold H2;rw[a];rfl
 have e:Vm (p,zI db p) u (uX db p u)=(bV db p u,((qM db p u:Nat):Int)):=by unfold Vm;rw[a];rfl
 refine zR (r:=(tup [T ze.sl (bV db p u),L ((qM db p u:Nat):Int),L 0],[])) ?_ rfl;grind[ztt,Q8,zo]
end
def zgW:ah:=bj (List.replicate 1 Q2) (fg NE Tryz.f93 (List.replicate 1 Q2))
theorem zcT:FK 93 zgW:=cj _ lN (cI kw)
def zhq:ah:=bj (List.replicate 2 Q2) (fg NE Tryz.f162 (List.replicate 2 Q2))
theorem zdl:FK 162 zhq:=cj _ lN (cI kw)
def QJ:=NE.addL [(93,zgW),(162,zhq)]
theorem Ei:zw QJ:=lN.addL<|fc zcT<|fc zdl<|jb
def zgY:ah:=bj (List.replicate 3 Q2) (fg QJ Tryz.f94 (List.replicate 3 Q2))
theorem zcV:FK 94 zgY:=cj _ Ei (cI kw)
def Ej:=QJ.add 94 zgY
theorem Ek:zw Ej:=Ei.add zcV
abbrev ZU:=kG [(1,[0,1,2,3,8]),(4,[0,1,2,3,8,9])]
inductive Bj where
 |h1 (i1:Int) (i2:Int) (i3f_0_0:Int) (i8:Int) (lh_0:List (J ze.sl))
 |h4 (i1:Int) (i2:Int) (i3f_0_0:Int) (i8:Int) (i9:Int) (lh_0:List (J ze.sl))
abbrev Nn:Bj->Nat×St
 |.h1 x a h b l=>(1,⟨tm 53 [(0,AV.vec 0),(1,L x),(2,L a),(3,AV.clo (Fn.func 94) [agg [L h]] []),(8,L b)],[AO.vec ze.sl l]⟩)
 |.h4 x a h b c l=>(4,⟨tm 53 [(0,AV.vec 0),(1,L x),(2,L a),(3,AV.clo (Fn.func 94) [agg [L h]] []),(8,L b),(9,L c)],[AO.vec ze.sl l]⟩)
theorem znZ:zZ Ej.P 223 Tryz.f223 4:=cI kw
def N4(l:List zr)(a b k:Int):Tr (Bj⊕az):=
 Q9 (Bj.h1 a b k (Γ Δ (a+1)) l)
theorem zmC(l:List zr)(a b k:Int):rn Ej 1 ZU Tryz.f223 [AV.vec 0,L a,L b,AV.clo (Fn.func 94) [agg [L k]] []] [AO.vec (Sh.sl K) l]=(N4 l a b k).map (lf Tryz.f223 Nn):=kw
def kO:Bj->Tr (Bj⊕az)
 | .h1 d n h e l=>
  br (N (e<n)) (Q9 (Bj.h4 d n h e e l))
  (re (tup []) [AO.vec ze.sl l])
 | .h4 d n h e x l=>
  let s:=N (x.toNat<X l)
  let a:=Γ Δ (x-1)
  let y:=zL a (X l)
  let z:=N (a.toNat<X l)
  let A:=N (h<0)
  let o:=l.getD x.toNat (Q ze.sl)
  let C:=(X o:Int)
  let B:=bif A then O else N (h>=C)
  let q:=l.getD a.toNat (Q ze.sl)
  let D:=(X q:Int)
  let b:=bif A then O else N (h>=D)
  let g:=bif b then O else zL h (X q)
  let j:=Y q h.toNat (Q K)
  let m:=Y o h.toNat (Q K)
  let w:=bif B then bif b then aG (0,0,[]) (0,0,[])else aG (0,0,[]) j else bif b then aG m (0,0,[])else aG m j
  let c:=l.set x.toNat q
  chk (cond (N (x>d)) (zL x (X l)&&(s&&(y&&(z&&bif B then g else zL h (X o)&&g)))) O)
  (br (cond (N (x>d)) (N (w<0)) S) (chk y (chk z (chk (zL x (X l)) (chk s (chk (zL x (X l)) (chk s (chk (zL a (X c)) (chk (N (a.toNat<X c)) (Q9 (Bj.h4 d n h e a (c.set a.toNat o))))))))))) (Q9 (Bj.h1 d n h (Γ Δ (e+1)) l)))
theorem zn6:∀s,run Ej 1 ZU (Func.results Tryz.f223).toList 400 (ap Tryz.f223 (Nn s).1) (Nn s).2=(kO s).map (lf Tryz.f223 Nn):=by intro s;cases s<;>kernel_rfl
def EY(l:List zr)(a b k:Int):=bT kO 100000000 (N4 l a b k)
def Mz(r:Option az):Option (List zr):=match r with
 |some (.tup [],[.vec (.sl OH) l])=>M l
 |_=>Q2
theorem tZ{r:Option az}(h:(Mz r).isSome=O):r=M (.tup [],[.vec (.sl K) ((Mz r).getD [])]):=by
 unfold Mz at h|-;split at h
 .rfl
 .cases h
def rI(l:List zr)(a b k:Int):=Mz (EY l a b k)
def zhJ:fz [Q2,Q2,Q2,Q2]:=λx h=>match x,h with
 |(.vec 0,L a,L b,.clo (.func 94) [.agg [L k]] [],_),[.vec (.sl OH) l]=>.chk ((rI l a b k).isSome) (.ok (.tup [],[.vec (.sl K) ((rI l a b k).getD [])]))
 |_,_=>.err
def zhu:ah:=bj [Q2,Q2,Q2,Q2] zhJ
theorem zdp:FK 223 zhu:=by
 refine sF (ι:=List zr×Int×Int×Int) (args:=λy=>[AV.vec 0,L y.2.1,L y.q.1,AV.clo (Fn.func 94) [agg [L y.r]] []]) (heap:=λy=>[AO.vec ze.sl y.1]) (i:=λy=>N4 y.1 y.2.1 y.q.1 y.r) (t:=kO) (e:=Nn) (n:=100000000) (n0:=1) Ek znZ (λ_=>rfl) (λy=>zmC _ _ _ _) zn6 (λx h g c=>?_);unfold zhJ at c;split at c
 .rename_i a b k u l;simp only[Q8]at c;split at c
  next d=>simp only[bG]at c;subst c;exact⟨(l,a,b,k),rfl,rfl,tZ d⟩
  .cases c
 .simp at c
def El:=Ej.add 223 zhu
theorem Em:zw El:=Ek.add zdp
abbrev ZX:=kG [(1,[0,1,2,3,10])]
inductive HN where
 |h1 (i1:Int) (i2:Int) (i3:Int) (i10:Int) (lh_0:List (J ze.sl))
abbrev Nq:HN->Nat×St
 |.h1 x a b h l=>(1,⟨tm 38 [(0,AV.vec 0),(1,L x),(2,L a),(3,L b),(10,L h)],[AO.vec ze.sl l]⟩)
theorem zn1:zZ El.P 305 Tryz.f305 5:=cI kw
def ZC(l:List zr)(a b n _:Int):Tr (HN⊕az):=
 Q9 (HN.h1 a b n 0 l)
theorem zmI(l:List zr)(a b n k:Int):rn El 1 ZX Tryz.f305 [AV.vec 0,L a,L b,L n,AV.clo (Fn.func 94) [agg [L k]] []] [AO.vec (Sh.sl K) l]=(ZC l a b n k).map (lf Tryz.f305 Nq):=kw
def ym:HN->Tr (HN⊕az)
 | .h1 e g j h l=>
  let a:=Γ Δ (g+h)
  let x:=Γ Δ (e+h)
  let c:=zL x (X l)
  let d:=N (x.toNat<X l)
  let b:=l.set x.toNat (l.getD a.toNat (Q ze.sl))
  br (N (h<j))
  (chk (zL a (X l)) (chk (N (a.toNat<X l)) (chk c (chk d (chk c (chk d (chk (zL a (X b)) (chk (N (a.toNat<X b)) (Q9 (HN.h1 e g j (Γ Δ (h+1)) (b.set a.toNat (l.getD x.toNat (Q ze.sl)))))))))))))
  (re (tup []) [AO.vec ze.sl l])
theorem zn9:∀s,run El 1 ZX (Func.results Tryz.f305).toList 400 (ap Tryz.f305 (Nq s).1) (Nq s).2=(ym s).map (lf Tryz.f305 Nq):=by intro s;cases s<;>kernel_rfl
def zoJ(l:List zr)(a b n k:Int):=bT ym 100000000 (ZC l a b n k)
def Md(l:List zr)(a b n k:Int):=Mz (zoJ l a b n k)
def zhL:fz [Q2,Q2,Q2,Q2,Q2]:=λx h=>match x,h with
 |(.vec 0,L a,L b,L n,.clo (.func 94) [.agg [L k]] [],_),[.vec (.sl OH) l]=>.chk ((Md l a b n k).isSome) (.ok (.tup [],[.vec (.sl K) ((Md l a b n k).getD [])]))
 |_,_=>.err
def zhz:ah:=bj [Q2,Q2,Q2,Q2,Q2] zhL
theorem zdu:FK 305 zhz:=by
 refine sF (ι:=List zr×Int×Int×Int×Int) (args:=λy=>[AV.vec 0,L y.2.1,L y.q.1,L y.r.1,AV.clo (Fn.func 94) [agg [L y.t]] []]) (heap:=λy=>[AO.vec ze.sl y.1]) (i:=λy=>ZC y.1 y.2.1 y.q.1 y.r.1 y.t) (t:=ym) (e:=Nq) (n:=100000000) (n0:=1) Em zn1 (λ_=>rfl) (λy=>zmI _ _ _ _ _) zn9 (λx h g c=>?_);unfold zhL at c;split at c
 .rename_i a b n k u l;simp only[Q8]at c;split at c
  next d=>simp only[bG]at c;subst c;exact⟨(l,a,b,n,k),rfl,rfl,tZ d⟩
  .cases c
 .simp at c
def En:=El.add 305 zhz
theorem Eo:zw En:=Em.add zdu
abbrev ZW:=kG [(2,[0,2,4,10,11])]
inductive Dv where
 |h2 (i2:Int) (i4f_0_0:Int) (i10:Int) (i11:Int) (lh_0:List (J ze.sl))
abbrev Np:Dv->Nat×St
 |.h2 b h x a l=>(2,⟨tm 58 [(0,AV.vec 0),(2,L b),(4,AV.clo (Fn.func 94) [agg [L h]] []),(10,L x),(11,L a)],[AO.vec ze.sl l]⟩)
theorem zn0:zZ En.P 267 Tryz.f267 5:=cI kw
def N5(l:List zr)(a m b k:Int):Tr (Dv⊕az):=
 Q9 (Dv.h2 m k (Γ Δ (m-a)) (Γ Δ (b-m)) l)
theorem zmH(l:List zr)(a m b k:Int):rn En 1 ZW Tryz.f267 [AV.vec 0,L a,L m,L b,AV.clo (Fn.func 94) [agg [L k]] []] [AO.vec (Sh.sl K) l]=(N5 l a m b k).map (lf Tryz.f267 Np):=kw
def sq:Dv->Tr (Dv⊕az)
 | .h2 b h x a l=>
  let c:=Γ Δ (b-x)
  let d:=Md l c b a h
  let e:=Md l c (Γ Δ (Γ Δ (b+a)-x)) x h
  let g:=Md l c b x h
  br (x !=a)
  (br (N (x>a)) (chk d.isSome (Q9 (Dv.h2 b h (Γ Δ (x-a)) a (d.getD [])))) (chk e.isSome (Q9 (Dv.h2 b h x (Γ Δ (a-x)) (e.getD [])))))
  (chk g.isSome (re (tup []) [AO.vec ze.sl (g.getD [])]))
theorem zn8:∀s,run En 1 ZW (Func.results Tryz.f267).toList 400 (ap Tryz.f267 (Np s).1) (Np s).2=(sq s).map (lf Tryz.f267 Np):=by intro s;cases s<;>kernel_rfl
def zbB(l:List zr)(a m b k:Int):=bT sq 100000000 (N5 l a m b k)
def LU(l:List zr)(a m b k:Int):=Mz (zbB l a m b k)
def zhK:fz [Q2,Q2,Q2,Q2,Q2]:=λx h=>match x,h with
 |(.vec 0,L a,L m,L b,.clo (.func 94) [.agg [L k]] [],_),[.vec (.sl OH) l]=>.chk ((LU l a m b k).isSome) (.ok (.tup [],[.vec (.sl K) ((LU l a m b k).getD [])]))
 |_,_=>.err
def zhy:ah:=bj [Q2,Q2,Q2,Q2,Q2] zhK
theorem zdt:FK 267 zhy:=by
 refine sF (ι:=List zr×Int×Int×Int×Int) (args:=λy=>[AV.vec 0,L y.2.1,L y.q.1,L y.r.1,AV.clo (Fn.func 94) [agg [L y.t]] []]) (heap:=λy=>[AO.vec ze.sl y.1]) (i:=λy=>N5 y.1 y.2.1 y.q.1 y.r.1 y.t) (t:=sq) (e:=Np) (n:=100000000) (n0:=1) Eo zn0 (λ_=>rfl) (λy=>zmH _ _ _ _ _) zn8 (λx h g c=>?_);unfold zhK at c;split at c
 .rename_i a m b k u l;simp only[Q8]at c;split at c
  next d=>simp only[bG]at c;subst c;exact⟨(l,a,m,b,k),rfl,rfl,tZ d⟩
  .cases c
 .simp at c
def Kq:=En.add 267 zhy
theorem Ep:zw Kq:=Eo.add zdt
end
end Cad
