/- Build. -/
import Derived.Test.YtjdjldbhjmgmkaaGreatDoorM24
import Derived.Test.YtjdjldbhjmgmkaaGreatDoorRows
import Derived.OpenShut
import Derived.ProofKit
namespace Cad
open Go Go.Proofs
open List renaming length->X
open IntKind renaming wrap->Γ,i64->Δ
open Tr renaming val->Q8
open Bool renaming true->O,false->S
open Option renaming some->Q1,some->M
open Int renaming toNat->Z
open List renaming getD->Y
open Tr (chk br re)
open AV (nils agg tup ptr kb str sl)
open AV renaming sl->T
open Cad renaming Sem->J,ze->K,ow->W,ai->L,zi->Q
set_option maxHeartbeats 4000000
set_option maxRecDepth 100000
noncomputable section
section
variable {db:List (J zl)} {p:J an} {us:List (J K)}
theorem BH(h:aH db p):∀l:zr,l.flatMap (bV db p)=(l.filter λu=>@decide (u∈ay p (zI db p)) (Classical.propDecidable _)).flatMap (bV db p)
 |[]=>rfl
 | a::r=>by
  rw[List.flatMap_cons,BH h r,List.filter_cons];by_cases x:a∈ay p (zI db p)
  .rw[zf (@zB _ (Classical.propDecidable _) x),List.flatMap_cons]
  .rw[zh (λq=>x (@lm _ (Classical.propDecidable _) q))];have c:uX db p a=[]:=kz λq=>x ((h.is a).2 q)
   have:bV db p a=[]:=by
    unfold bV;rw[c];unfold un;split<;>rfl
   rw[this];rfl
theorem NX(h:aH db p)(m:jH db p)(us:zr):qT p.r.1.q.1 ((dY us).flatMap (bV db p)):=by rw[BH h];exact nD h m ((pR us).filter _) λu x=>@lm _ (Classical.propDecidable _) (List.mem_filter.1 x).2
theorem pH(h:aH db p)(m:jH db p){l:zr}:∀r∈l.flatMap (bV db p),qt p.r.1.q.1 r/\dt p.r.1=O/\X r<=1000:=λr c=>by
 have⟨u,_,x⟩:=wl.1 c;have⟨k,d,e⟩:=oH h m r x;have:=(cK k).1;have:=m.wf.ncols;exact⟨d,e,W⟩
theorem V7(h:aH db p)(m:jH db p){x:zr}(c:x.flatMap (bV db p)≠[]):dt p.r.1=O:=by have⟨r,d⟩:=List.exists_mem_of_ne_nil _ c;exact(pH h m r d).2.1
theorem zoE(h:aH db p)(m:jH db p)(x:X us<=1000):kW p (zI db p) us=M ((p.r.1,jj (zN p.r.1.q.1) ((dY us).flatMap (bV db p))),((dl db p (dY us):Nat):Int),0,()):=by have c:=(lO h (dY us) (pR us)).1;exact zbO h m x (zfJ (zfb h m us) (be c W) (V7 h m) (λr d=>(pH h m r d).1) (NX h m us))
theorem zsm(h:aH db p)(m:jH db p):M5 p (zI db p)=M ((p.r.1,jj (zN p.r.1.q.1) ((ay p (zI db p)).flatMap (bV db p))),((dl db p (ay p (zI db p)):Nat):Int),0,()):=by have x:=h.few;have c:=h.rel.few;have:=zoE (us:=ay p (zI db p)) h m W;rw[WC h.nodup]at this;exact zlX h this
theorem Wt(h:aH db p)(m:jH db p){rows:List zr}(c:X rows<=1000)(d:∀r∈rows,X r<=1000):C3 (p.r.1,rows) (p.r.1,rows)=O/\Lq (p.r.1,rows) (p.r.1,rows)=O:=
 O5 (x:=(p.r.1,rows)) (be m.wf.ncols W) (be m.wf.nuq W) (be m.wf.nrf W) h.go.few.cp (be c W) λr q=>be (d r q) W
end
variable {s:zP}
theorem zb4{db:zS}{p:ao}(z:∀x∈db,ii x)(o:aH db p){c:zS}{h:zP}(d:E6 c=db)(g:KI c=O)(l:Tz s=h)(k:KH s=O)(v:Ub db h=(p,0))(j:K2 db h=O):
  lQ c s=M (p,zI db p,O,()):=by
 have m:=zb3 (za9 z o.fnd);have A:KK p db=O:=by unfold KK;rw[m];rfl
 have B:Rp p db=(p,zI db p,O):=by unfold Rp;rw[m];rfl
 have e:p=(p.1,p.2.1,p.q.1,(p.r.1.1,p.r.1.2.1,p.r.1.q.1,p.r.1.r.1,p.r.1.t.1,zt p.r.1.u),p.t):=by rw[zo]
 refine(zR (i:=i7u c s) (t:=t0) (n:=100000000) (outs:=[an,zl.sl,Sh.bool]) (by
  simp only[i7u,zo,bh,Q8,d,g,l,k,v,j,A,B,fL,zC,zj,zm];rfl) (y:=((p.1,p.2.1,p.q.1,(p.r.1.1,p.r.1.2.1,p.r.1.q.1,p.r.1.r.1,p.r.1.t.1,zt p.r.1.u),p.t),zI db p,O,())) rfl).trans ?_
 rw[<-e]
variable {d:zS}
theorem za1(hx:∀x∈d,RgR x)(h1:RgS s):
  ∃(p:ao)(u:zS)(D:Bool),lQ d s=M (p,u,D,())/\(D=O->∃db c,p=(bm db c).2/\(bm db c).1=0/\aH db p/\u=zI db p/\(∀x∈db,JZ x)/\jH db p/\wk c):=by
 have⟨db,A,d2,G⟩:=Z1 d;have⟨c,F,s2,z⟩:=ZZ h1;have k:E6 d=db:=by unfold E6;rw[A];rfl
 have l:KI d=O:=by unfold KI;rw[A];rfl
 have C:Tz s=c:=by unfold Tz;rw[F];rfl
 have o:KH s=O:=by unfold KH;rw[F];rfl
 have e:∀x∈db,JZ x:=by
  intro x g;obtain⟨y,hy,rfl⟩:=G x g;exact Z0 (hx y hy)
 have q:∀x∈db,ii x:=λx g=>(e x g).short
 have E:=za7 e z;have m:K2 db c=O:=by unfold K2;rw[E];rfl
 have v:Ub db c=((bm db c).2,(bm db c).1):=by unfold Ub;rw[E];rfl
 by_cases j:(bm db c).1=0
 .have B:=zaX q j s2;have hM:=znP e j z;rw[j]at v;exact⟨(bm db c).2,zI db (bm db c).2,O,zb4 q B k l C o v m,λ_=>⟨db,c,rfl,j,B,rfl,e,hM,z⟩⟩
 .have hb:((bm db c).1!=0)=O:=by simpa using j
  refine⟨ls,[],S,?_,λh=>by cases h⟩;refine zR (i:=i7u d s) (t:=t0) (n:=100000000) (outs:=[an,zl.sl,Sh.bool]) (r:=(tup [zPl,nils,kb S],[])) ?_ rfl;simp only[i7u,zo,bh,Q8,k,l,C,o,v,m,hb,zj]
theorem za0(m:∀x∈d,RgR x)(u:RgS s):
  ∃(p:ao)(e:zS)(o:Bool),lQ d s=M (p,e,o,())/\(o=O->∃db,aH db p/\e=zI db p/\(∀x∈db,JZ x)/\jH db p/\dt p.r.1=O/\p.r.1.r.1=[]/\p.r.1.t.1=[]):=by have⟨p,e,o,h,k⟩:=za1 m u;refine⟨p,e,o,h,λq=>?_⟩;obtain⟨db,c,rfl,g,y,A,n,v,l⟩:=k q;have⟨_,_,z,_⟩:=xq g;have⟨i,j⟩:=RE g;exact⟨db,y,A,n,v,zaY ((iZ λx m=>(n x m).short).1 z) l g,i,j⟩
section
variable {db:List (J zl)} {p:J an} {us a b:List (J K)}
theorem X3:dl db p (a++b)=dl db p a+dl db p b:=by unfold dl;rw[ib,List.sum_append]
theorem Vn(h:a.Perm b):dl db p a=dl db p b:=(h.map _).sum_nat
theorem Rd(h:a.Perm b):(a.flatMap (bV db p)).Perm (b.flatMap (bV db p)):=List.Perm.flatMap_right _ h
theorem zb6(h:aH db p)(m:jH db p)(c:a.Perm (ay p (zI db p))):
  jj (zN p.r.1.q.1) (a.flatMap (bV db p))=jj (zN p.r.1.q.1) ((ay p (zI db p)).flatMap (bV db p))/\dl db p a=dl db p (ay p (zI db p)):=by
 refine⟨?_,Vn c⟩;have x:=nD h m h.nodup λu g=>g
 refine(ZJ (λr e=>?_) x (Rd c).symm).symm;have⟨u,_,d⟩:=wl.1 e;exact(oH h m r d).2.1.q
theorem zfy(h:aH db p)(m:jH db p){G:zp}(c:G∈ay p (zI db p)):∀r∈bV db p G,E3 db p (zN p.r.1.q.1 r)=(G,0):=λ_ x=>Rl h m c (List.mem_filter.1 x).1
end
section
variable {α:Type}
def iW(l:List α)(t i:Nat):List α:=(l.drop t++l.take t).take i
variable {m:List α}
theorem W9{t n:Nat}(h:n<X m):∃g:(n+t)%X m<X m,(m.drop (t%X m)++m.take (t%X m))[n]?=M (m[(n+t)%X m]):=by
 have d:0<X m:=by omega
 refine⟨nJ _ d,?_⟩;have e:=nJ t d;have x:(n+t)%X m=if n+t%X m<X m then n+t%X m else n+t%X m-X m:=by
  rw[Nat.add_mod,Nat.mod_eq_of_lt h];split
  next c=>exact Nat.mod_eq_of_lt c
  next c=>rw[Nat.mod_eq_sub_mod W,Nat.mod_eq_of_lt W]
 generalize t%X m=k at e x|-;rw[List.getElem?_append,List.length_drop];split
 next c=>rw[zf W]at x;rw[Bm,af W];congr 2;omega
 next c=>rw[zh W]at x;rw[M1,zf W,af W];congr 2;omega
theorem Sr{t n:Nat}(h:n<X m):iW m (t%X m) (n+1)=iW m (t%X m) n++[m[(n+t)%X m]'(nJ _ W)]:=by have⟨x,e⟩:=W9 (t:=t) h;unfold iW;rw[List.take_add_one,e];rfl
theorem Ss{l:List α}(t:Nat)(h:0<X l):(iW l (t%X l) (X l)).Perm l:=by unfold iW;rw[HQ (by simp;have:=nJ t h;omega)];exact List.perm_append_comm.trans (by rw[List.take_append_drop])
end
abbrev zyQ:Nat->aY:=λj=>if j=10 then{slots:=[2,7,8,10,11,13,15,16,17],prom:=[(15,M 11,.sl K)]}else if j=17 then{slots:=[2,7,8,10,11,13,15,16,17,18,19,20,22]}else{ }
inductive H7q where
 |h10 (i2:J (Sh.int IntKind.u8)) (l8:zS) (i11:zy) (l13:zr) (i16:Int) (i17:Int) (z0:zq [CP.d an]) (z1:zq [CP.d zl]) (z2:zq yI)
 |h17 (i2:J (Sh.int IntKind.u8)) (l8:zS) (i11:zy) (l13:zr) (i16:Int) (i17:Int) (l19:List (J ze.sl)) (i20:zy) (i22:Int) (z0:zq [CP.d an]) (z1:zq [CP.d zl]) (z2:zq yI) (z3:zq [CP.d K])
abbrev e7q:H7q->Nat×St
 |.h10 c k i l h x m n z=>(10,⟨tm 145 [(2,AV.int IntKind.u8 c),(7,ptr 0 0),(8,T zl k),(10,ptr 1 0),(11,L i),(13,T K l),(15,ptr 2 0),(16,L h),(17,L x)],[AO.box (bF [] [CP.d an] m),AO.box (bF [] [CP.d zl] n),AO.box (bF [3] yI z),AO.vec ze.sl z.2.1]⟩)
 |.h17 c k i l h x j e g m n z o=>(17,⟨tm 145 [(2,AV.int IntKind.u8 c),(7,ptr 0 0),(8,T zl k),(10,ptr 1 0),(11,L i),(13,T K l),(15,ptr 2 0),(16,L h),(17,L x),(18,ptr 3 0),(19,T ze.sl j),(20,L e),(22,L g)],[AO.box (bF [] [CP.d an] m),AO.box (bF [] [CP.d zl] n),AO.box (bF [4] yI z),AO.box (bF [] [CP.d K] o),AO.vec ze.sl z.2.1]⟩)
def i7q(l:J zl.sl)(x:zP)(m:J (Sh.int IntKind.u8)):Tr (H7q⊕az):=
 let e:=(x.1,x.2.1,x.2.2.1,x.2.2.2.1,x.t.1,x.t.2.1,x.t.q.1,x.t.q.2.1,zt x.t.t.1,x.t.t.2.1,x.t.t.q.1,zt x.t.t.q.2.1,x.t.t.t)
 let h:=E8 l e
 let d:=(h.1.1,h.1.2.1,h.1.2.2.1,(h.1.2.2.2.1.1,h.1.2.2.2.1.2.1,h.1.2.2.2.1.2.2.1,h.1.2.2.2.1.2.2.2.1,h.1.2.2.2.1.t.1,zt h.1.2.2.2.1.t.2),h.1.t)
 let c:=zl0 d h.2.1
 let g:=c.2.2!=0
 let i:=JL d h.2.1
 let j:=i.2!=0
 let k:=((c.1.1.1,c.1.1.2.1,c.1.1.2.2.1,c.1.1.2.2.2.1,c.1.1.t.1,zt c.1.1.t.2),c.1.2)
 chk (AA l e)
 (br (!h.2.2) (chk O (re (AV.bool J3) []))
  (chk (XW d h.2.1) (chk (Ba d h.2.1) (chk (cond g O (cond j O (tP k))) (br (cond g O (cond j O (AX k !=0))) (re (kb S) []) (Tr.to (H7q.h10 m h.2.1 c.2.1 i.1 0 0 (h.1,()) (c.1,()) (c.1.1,[],()))))))))
def t7q:H7q->Tr (H7q⊕az)
 | .h10 v j c l d i z g x=>
  let n:=Γ Δ ((Γ Δ (i+Γ Δ v)).tmod (X l:Int))
  let A:=(z.1.1,z.1.2.1,z.1.q.1,(z.1.r.1.1,z.1.r.1.2.1,z.1.r.1.q.1,z.1.r.1.r.1,z.1.r.1.t.1,zt z.1.r.1.u),z.1.t)
  let o:=l.getD n.toNat (Q K)
  let s:=X1 A j o
  let k:=((x.1.1,x.1.2.1,x.1.q.1,x.1.r.1,x.1.t.1,zt x.1.u),x.2.1)
  let m:=RV k
  let C:=((m.1.1,m.1.2.1,m.1.q.1,m.1.r.1,m.1.t.1,zt m.1.u),m.2)
  let D:=((g.1.1.1,g.1.1.2.1,g.1.1.q.1,g.1.1.r.1,g.1.1.t.1,zt g.1.1.u),g.1.2)
  br (decide (i<(X l:Int)))
  (chk ((X l:Int)!=0) (chk (zL n (X l)) (chk (P8 A j o) (br (s.q !=0) (re (kb S) []) (Tr.to (H7q.h17 v j c l d i s.1 s.2.1 0 z g x (o,())))))))
  (chk (Lr k) (chk (C3 C D) (br (Lq C D) (br (d==c) (chk O (re (AV.bool J3) [])) (re (kb S) [])) (re (kb S) []))))
 | .h17 v j c l d i h y e z g x B=>
  let n:=h.getD e.toNat (Q ze.sl)
  let A:=(X n:Int)
  let o:=(z.1.1,z.1.2.1,z.1.q.1,(z.1.r.1.1,z.1.r.1.2.1,z.1.r.1.q.1,z.1.r.1.r.1,z.1.r.1.t.1,zt z.1.r.1.u),z.1.t)
  let s:=Y n (Z z.1.r.1.q.1) (Q K)
  let k:=zoN o j s
  br (decide (e<(X h:Int)))
  (chk (zL e (X h)) (br (decide (z.1.r.1.q.1>=A)) (re (kb S) []) (chk (zL e (X h)) (chk (zL z.1.r.1.q.1 (X n)) (chk (zb8 o j s) (br (cond (!(k.1.1==B.1.1&&(k.1.2.1==B.1.2.1&&(k.1.q==B.1.q&&O)))) O (k.2!=0))
  (re (kb S) []) (Tr.to (H7q.h17 v j c l d i h y (Γ Δ (e+1)) z g x B))))))))
  (chk (decide (X x.2.1+X h<=1073741824)) (Tr.to (H7q.h10 v j c l (Γ Δ (d+y)) (Γ Δ (i+1)) z g (x.1,x.2.1++h,()))))
def KJ(x:J zl.sl)(h:zP)(c:J (Sh.int IntKind.u8)):=ar [Sh.bool] t7q 100000000 (i7q x h c)
def F7q:=FT [zl.sl,aB,Sh.int IntKind.u8] [Sh.bool] λx=>KJ x.1 x.2.1 x.q.1
theorem zrS:FK 7 F7q:=VX.T1 (f:=Tryz.f7) (keep:=zyQ) (e:=e7q)
def ofV(_:ao)(s:zS)(h:Int)(row:zr):zp×Int:=
 if X row≠X (Y s 0 (Q zl)).1.2.1\/¬∀v∈row,bf v=O then((0,0,[]),1)else if(Y row h.toNat (Q K)).1=0 then((0,0,[]),6)else(Y row h.toNat (Q K),0)
theorem zoO{p:ao}{row:zr}(h:SL p d)(z:lE p d=O)(C:X row<=1000)(s:X row=X (Y d 0 (Q zl)).1.2.1->zL (dp p d) (X row)=O):
  zwm p d row=M ((ofV p d (dp p d) row).1,(ofV p d (dp p d) row).2,()):=by
 have⟨u,y⟩:=xn h;have B:=(nB h.two).1;have j:zL 0 (X d)=O:=zx (i:=0) B;unfold ofV;by_cases c:X row=X (Y d 0 (Q zl)).1.2.1
 .have A:=s c;have e:((X row:Int)!=((X (Y d 0 (Q zl)).1.2.1:Nat):Int))=S:=by rw[c];simp
  have x:(zeP p d row).val=M (.inl (.h4 d row row (X row:Int) ((0:Nat):Int) (p,()) ((0,0,[]),()))):=by
   simp only[zeP,zo,bh,Q8,u,y,j,fL,aL,ov,zj];rw[zh (by rw[iY];exact e)];rfl
  have n:∀i(x:i<X row),(WZ (.h4 d row row (X row:Int) (i:Int) (p,()) ((0,0,[]),()))).val=if bf row[i]=O then M (.inl (.h4 d row row (X row:Int) ((i+1:Nat):Int) (p,()) ((0,0,[]),())))else M (.inr (.tup [.agg [L 0,L 0,.str []],L 1],[])):=λi x=>by
   simp only[WZ,Q8,zO x,zx x,zj,zW _ _ x];rw[zu i um];cases bf row[i]<;>simp
  rcases nG (t:=WZ) (Φ:=λr=>r=(.tup [.agg [L 0,L 0,.str []],L 1],[])) 1 (λi=>.h4 d row row (X row:Int) (i:Int) (p,()) ((0,0,[]),())) (λi=>∀h:i<X row,bf row[i]=O) (X row) (λi x _=>by
   by_cases m:bf row[i]=O
   .exact .inl ⟨λ_=>m,zH.of (by rw[n i x,zf m])⟩
   .exact .inr ⟨λq=>m (q x),_,zU.of (by rw[n i x,zh m]),rfl⟩)with⟨o,l⟩|⟨o,r,l,rfl⟩
  .have g:∀v∈row,bf v=O:=λv n=>by
    obtain⟨i,x,rfl⟩:=fK n;exact o i x x
   rw[zh (by rintro(q|q);exact q c;exact q g)];by_cases k:(Y row (Z (dp p d)) (Q K)).1=0
   .rw[zf k];have e0:((Y row (Z (dp p d)) (Q K)).1==0)=O:=by simpa using k
    refine zA x (l.ends (zU.of (r:=(.tup [.agg [L 0,L 0,.str []],L 6],[])) ?_)) W rfl;simp only[WZ,Q8,zM,zo,bh,z,A,e0,zC,zj,zm]
   .rw[zh k];have e0:((Y row (Z (dp p d)) (Q K)).1==0)=S:=by simpa using k
    refine zA x (l.ends (zU.of (r:=(.tup [.agg [L (Y row (Z (dp p d)) (Q K)).1,L (Y row (Z (dp p d)) (Q K)).2.1,.str (Y row (Z (dp p d)) (Q K)).q],L 0],[])) ?_)) W rfl;simp only[WZ,Q8,zM,zo,bh,z,A,e0,zC,zj,zm]
  .rw[zf (.inr λq=>o λi x _=>q _ (bp x))];exact zA x l W rfl
 .rw[zf (.inl c)];have e:((X row:Int)!=((X (Y d 0 (Q zl)).1.2.1:Nat):Int))=O:=by
   rw[bne_iff_ne];exact λq=>c (by exact_mod_cast q)
  refine zR (r:=(.tup [.agg [L 0,L 0,.str []],L 1],[])) ?_ rfl;simp only[zeP,zo,bh,Q8,u,y,j,fL,aL,ov,zj];exact zf e
section
variable {db:List (J zl)} {p:J an}
theorem aH.of(h:aH db p){row:zr}(c:X row<=1000):zwm p (zI db p) row=M ((ofV p (zI db p) (dH p (zI db p)) row).1,(ofV p (zI db p) (dH p (zI db p)) row).2,()):=by
 have:=zoO (row:=row) h.go h.pc.1 c (λe=>by
  rw[h.pc.2];unfold zL;rw[aP];have x:=h.col.1;have g:=h.col.2;have d:X row=X (eH db p).1.2.1:=e;exact⟨zB x,zB W⟩)
 rwa [h.pc.2]at this
theorem aH.row(h:aH db p){row:zr}(x:row∈(eH db p).2):ofV p (zI db p) (dH p (zI db p)) row=if(Y row (Z (dH p (zI db p))) (Q K)).1=0 then((0,0,[]),6)else(Y row (Z (dH p (zI db p))) (Q K),0):=by
 unfold ofV;rw[zh];rintro(q|q)
 .exact q (h.inn row x).2
 .exact q (cK (h.rel.fits row x)).2.1
end
inductive H5q where
 |h10 (l6:zS) (i9:zy) (l11:zr) (i13:Int) (i14:Int) (z0:zq [CP.d an]) (z1:zq [CP.d zl])
theorem M6:Ct=M (O,()):=zR (i:=ztl) (r:=(.bool O,[])) rfl rfl
theorem M7:SX=O/\J3=O:=⟨by unfold SX;rw[M6];rfl,by unfold J3;rw[M6];rfl⟩
variable {z:Int}
theorem zfg(h2:0<=z/\z<=255)(hx:∀x∈d,RgR x)(h1:RgS s):KJ d s z=M (O,()):=by
 obtain⟨t,rfl⟩:∃t:Nat,z=(t:Int):=⟨z.toNat,W⟩;have⟨p,x5,ok,h,x3⟩:=za0 hx h1;have hc:AA d s=O:=by unfold AA;rw[h];rfl
 have hp:E8 d s=(p,x5,ok):=by unfold E8;rw[h];rfl
 cases ok with
 | false=>
  refine zR (r:=(.bool O,[])) ?_ rfl;simp only[i7q,zo,bh,Q8,hc,hp,M7.2,dj,zj]
 | true=>
  obtain⟨db,g,rfl,_,m,hT,hu,_⟩:=x3 rfl;have ha:=g.uall;have a1:Ba p (zI db p)=O:=by unfold Ba;rw[ha];rfl
  have a2:JL p (zI db p)=(ay p (zI db p),0):=by unfold JL;rw[ha];rfl
  have hL:(ay p (zI db p)).length<=200:=be g.few g.rel.few;have G:=zfc g m hT hu g.nodup λu h=>h
  have sU:=zsm g m;have⟨gU,bU⟩:=lO g (ay p (zI db p)) g.nodup;have pU:=eI (k:=zN p.r.1.q.1) ((ay p (zI db p)).flatMap (bV db p));have kU:=λr y=>pH g m (l:=ay p (zI db p)) r (pU.mem_iff.1 y)
  have lU:=pU.length_eq;have o:∀a:zr,a.Perm (ay p (zI db p))->jj (zN p.r.1.q.1) (a.flatMap (bV db p))=jj (zN p.r.1.q.1) ((ay p (zI db p)).flatMap (bV db p))/\dl db p a=dl db p (ay p (zI db p)):=λa ha=>zb6 g m ha
  generalize jj (zN p.r.1.q.1) ((ay p (zI db p)).flatMap (bV db p))=u at o sU kU lU G;have⟨e,e1,e2⟩:=BX (x:=((p.r.1,u):ae)) ⟨m.wf.nuq,m.wf.nrf,by show X u<=1000;omega⟩;have e0:=e2.2 G;subst e0;have c1:tP (p.r.1,u)=O:=by unfold tP;rw[e1];rfl
  have c2:AX (p.r.1,u)=0:=by unfold AX;rw[e1];rfl
  have cU:XW p (zI db p)=O/\zl0 p (zI db p)=((p.r.1,u),((dl db p (ay p (zI db p)):Nat):Int),0):=⟨by unfold XW;rw[sU];rfl,by unfold zl0;rw[sU];rfl⟩;have hs:(i7q d s (t:Int)).val=M (.inl (.h10 (t:Int) (zI db p) ((dl db p (ay p (zI db p)):Nat):Int) (ay p (zI db p)) ((0:Nat):Int) ((0:Nat):Int) (p,()) ((p.r.1,u),()) (p.r.1,[],()))):=by
   simp only[i7q,zo,bh,Q8,hc,hp,a1,a2,cU.1,cU.2,c1,c2,ce,fL,aL,zC,zj,zm];rfl
  have h3:∀i,i<=(ay p (zI db p)).length->((iW (ay p (zI db p)) (t%(ay p (zI db p)).length) i).flatMap (bV db p)).length<=200/\dl db p (iW (ay p (zI db p)) (t%(ay p (zI db p)).length) i)<=200:=λi hi=>by
   refine lO g _ (List.Nodup.sublist (List.take_sublist _ _) ?_);have E:((ay p (zI db p)).drop (t%(ay p (zI db p)).length)++(ay p (zI db p)).take (t%(ay p (zI db p)).length)).Perm (ay p (zI db p)):=List.perm_append_comm.trans (by rw[List.take_append_drop]);exact E.nodup_iff.2 g.nodup
  have hg:=zH.all (t:=t7q) 202 (λi=>.h10 (t:Int) (zI db p) ((dl db p (ay p (zI db p)):Nat):Int) (ay p (zI db p)) ((dl db p (iW (ay p (zI db p)) (t%(ay p (zI db p)).length) i):Nat):Int) (i:Int) (p,()) ((p.r.1,u),()) (p.r.1,(iW (ay p (zI db p)) (t%(ay p (zI db p)).length) i).flatMap (bV db p),())) (ay p (zI db p)).length λi hi=>by
   have hn:0<(ay p (zI db p)).length:=by omega
   have D:(i+t)%(ay p (zI db p)).length<(ay p (zI db p)).length:=nJ _ hn;have⟨t1,t2⟩:=h3 i W;have A:=Sr (t:=t) hi;have x4:Γ Δ ((Γ Δ ((i:Int)+Γ Δ (t:Int))).tmod ((ay p (zI db p)).length:Int))=(((i+t)%(ay p (zI db p)).length:Nat):Int):=by
    have w1:Γ Δ (t:Int)=(t:Int):=by rw[eK];omega
    have w2:Γ Δ ((i:Int)+(t:Int))=((i+t:Nat):Int):=by rw[eK];omega
    rw[w1,w2];have:((i+t:Nat):Int).tmod ((ay p (zI db p)).length:Int)=(((i+t)%(ay p (zI db p)).length:Nat):Int):=rfl;rw[this,eK];omega
   have hv:=bp D;obtain⟨v,h5⟩:∃v,v=(ay p (zI db p))[(i+t)%(ay p (zI db p)).length]:=⟨_,rfl⟩;have F:Y (ay p (zI db p)) (((i+t)%(ay p (zI db p)).length:Nat):Int).toNat (Q K)=v:=by rw[zW _ _ D,h5]
   rw[<-h5]at A hv;rw[A,List.flatMap_append,List.flatMap_singleton,X3];have h6:dl db p [v]=qM db p v:=by unfold dl;simp
   rw[h6];have h8:(bV db p v).length<=200:=be NW (be (List.length_filter_le _ _) g.rel.few);have h7:qM db p v<=200:=by
    have:=KS (db:=db) (p:=p) (v:=v);have:(uX db p v).length<=(eH db p).2.length:=List.length_filter_le _ _;have:=g.rel.few;unfold qM;omega
   have C:∀r∈bV db p v,qt p.r.1.q.1 r/\zb8 p (zI db p) (zN p.r.1.q.1 r)=O/\zoN p (zI db p) (zN p.r.1.q.1 r)=(v,0):=λr y=>by
    have B:=g.key (zN p.r.1.q.1 r);rw[zfy g m hv r y]at B;exact⟨(oH g m r y).2.1,by unfold zb8;rw[B];rfl,by unfold zoN;rw[B];rfl⟩
   have h4:=X2 g m v;have b1:P8 p (zI db p) v=O:=by unfold P8;rw[h4];rfl
   have b2:X1 p (zI db p) v=(bV db p v,((qM db p v:Nat):Int),0):=by unfold X1;rw[h4];rfl
   have h9:(((ay p (zI db p)).length:Int)!=0)=O:=by rw[bne_iff_ne];omega
   generalize(iW (ay p (zI db p)) (t%(ay p (zI db p)).length) i).flatMap (bV db p)=j at t1|-;generalize dl db p (iW (ay p (zI db p)) (t%(ay p (zI db p)).length) i)=n at t2|-;generalize bV db p v=c at h8 C b2|-;generalize qM db p v=b at h7 b2|-
   have f1:zH t7q 1 (.h10 (t:Int) (zI db p) ((dl db p (ay p (zI db p)):Nat):Int) (ay p (zI db p)) (n:Int) (i:Int) (p,()) ((p.r.1,u),()) (p.r.1,j,()))
     (.h17 (t:Int) (zI db p) ((dl db p (ay p (zI db p)):Nat):Int) (ay p (zI db p)) (n:Int) (i:Int) c (b:Int) ((0:Nat):Int) (p,()) ((p.r.1,u),()) (p.r.1,j,()) (v,())):=zH.of (by
    simp only[t7q,Q8,zo,bh,zO hi,x4,zx D,F,h9,b1,b2,fL,zC,zj,zm];rfl)
   have f2:=zH.all (t:=t7q) 1 (λk=>.h17 (t:Int) (zI db p) ((dl db p (ay p (zI db p)):Nat):Int) (ay p (zI db p)) (n:Int) (i:Int) c (b:Int) (k:Int) (p,()) ((p.r.1,u),()) (p.r.1,j,()) (v,())) (X c) λk B=>zH.of (by
    have⟨k1,k2,k3⟩:=C _ (bp B);have k4:zL p.r.1.q.1 (X c[k])=O:=k1.1;have k5:decide (GE.ge (α:=Int) p.r.1.q.1 ((X c[k]:Nat):Int))=S:=by
     unfold zL at k4;simp only[aP,ba]at k4;exact aC W
    have k6:Y c[k] (Z p.r.1.q.1) (Q K)=zN p.r.1.q.1 c[k]:=rfl;simp only[t7q,Q8,zo,bh,zO B,zx B,zW _ _ B,k4,k5,k6,k2,k3,BEq.rfl,ov,ce,fL,aL,zC,zj,zm];rw[zu k um])
   have f3:zH t7q 1 (.h17 (t:Int) (zI db p) ((dl db p (ay p (zI db p)):Nat):Int) (ay p (zI db p)) (n:Int) (i:Int) c (b:Int) (X c:Int) (p,()) ((p.r.1,u),()) (p.r.1,j,()) (v,()))
     (.h10 (t:Int) (zI db p) ((dl db p (ay p (zI db p)):Nat):Int) (ay p (zI db p)) ((n+b:Nat):Int) ((i+1:Nat):Int) (p,()) ((p.r.1,u),()) (p.r.1,j++c,())):=zH.of (by
    have d1:decide (X j+X c<=1073741824)=O:=zB W;have w3:Γ Δ ((n:Int)+(b:Int))=((n+b:Nat):Int):=by rw[eK];omega
    simp only[t7q,Q8,zM,d1,w3,zC,zj,zm];rw[zu i um])
   exact((f1.trans f2).trans f3).mono W
  have E:(iW (ay p (zI db p)) (t%(ay p (zI db p)).length) (ay p (zI db p)).length).Perm (ay p (zI db p)):=by
   rcases Nat.eq_zero_or_pos (ay p (zI db p)).length with h0|h0
   .rw[List.length_eq_zero_iff.1 h0];exact List.Perm.refl _
   .exact Ss t h0
  have⟨q1,q2⟩:=o _ E;have⟨t1,t2⟩:=h3 (ay p (zI db p)).length (zQ _);have kA:=λr y=>pH g m (l:=iW (ay p (zI db p)) (t%(ay p (zI db p)).length) (ay p (zI db p)).length) r y
  have z1:iW (ay p (zI db p)) (t%(ay p (zI db p)).length) 0=[]:=rfl;simp only[z1]at hg;rw[q2]at hg;generalize(iW (ay p (zI db p)) (t%(ay p (zI db p)).length) (ay p (zI db p)).length).flatMap (bV db p)=j at hg q1 t1 kA;have⟨s1,s2⟩:=zbj (t:=p.r.1) (rows:=j) m.wf (λ_=>hT) W λr y=>(kA r y).1
  rw[q1]at s2;have⟨m1,m2⟩:=Wt g m (rows:=u) W λr y=>(kU r y).q
  have:(ay p (zI db p)).length*202<=200*202:=f5 _ hL;refine zA hs (hg.ends (zU.of (r:=(.bool O,[])) ?_)) W rfl;simp only[t7q,Q8,zo,bh,zM,s1,s2,m1,m2,BEq.rfl,M7.2,zC,zj,zm]
open Go Go.RowKit Go.ChangeShapes
variable {x A:World}
theorem KG(g:A.os=x.os)(d:A.output=x.output)(h:∀b,b<x.heap.size->A.heap[b]?=x.heap[b]?)(m:MemPlace->Prop):x.keptBut A m:=by
 refine⟨g,d,λi j=>?_⟩;rw[h i j];cases x.heap[i]? with
 |none=>rfl
 | some o=>
  cases o with
  |cells c t l=>exact⟨rfl,rfl,rfl,λ_ _=>rfl⟩
  |map k e=>exact .inr ⟨rfl,rfl⟩
  |_=>rfl
section
variable {H:Type} {enc:TypeId×Value->H} {P:Program}
variable {v:Value}
theorem OK{f:Func}{y:ChangeSpec}{B d m:Bool}{h A:World}{c:Array Value}{q u:List (DataW H)}{x pa pv:List MemPlace}
  (C:DataW.Whole enc P f.params.toList y.vars S h c.toList q u x)
  (l:∀(b:Nat)(s:Nat->Bool)(hd:Bool),DataW.TrodAll enc P A b s hd f.resultTypes.toList (v.resultList f.resultTypes.size) (y.fn H (q++u)).results [])
  (e:∀s:Nat->Bool,(∀p∈x,s p.block=O)->DataW.TrodAll enc P A 0 s O f.params.toList c.toList (y.fn H (q++u)).args pa)
  (g:∀s:Nat->Bool,(∀p∈x,s p.block=O)->DataW.TrodVars enc P A s y.vars (y.fn H (q++u)).vars pv)
  (n:x=pa++pv) (hk:h.keptBut A (·∈x)) (D:∀a:Addr,a.block<h.heap.size->A.frozen? a=h.frozen? a)
  (F:∀(j:Nat)(t:TypeId)(r:Value),f.resultTypes[j]?=M t->(v.resultList f.resultTypes.size)[j]?=M r->Value.okWide P A .any 0 t r):
  y.post enc P f S B d m h c v A:=by
 have k:∀p∈x,(λb=>decide (b<h.heap.size)) p.block=O:=λp i=>by simpa using C.lt p i
 have E:=C.lt;refine⟨q,u,x,[],pa,pv,C,l _ _ _,e _ k,g _ k,World.keptBut_mono (λp i=>⟨i,?_⟩) hk,λ_=>?_⟩
 .rw[n,cZ]at i;exact Or.inr i
 .have⟨_,_,_,_,_,hz,hn⟩:=C;refine⟨F,_,_,([]++pa)++pv,⟨[]++pa,pv,trodAll_append (e _ (λ_ _=>rfl)) (l _ _ _),g _ (λ_ _=>rfl),rfl,?_,?_⟩,?_⟩
  .intro b o i;have z:MemPlace.cell b o∈x:=by rw[n];simpa using i
   rw[D ⟨b,o,none⟩ (E _ z)];exact hz b o z
  .intro G;cases G
  .intro p i _;rw[n];simpa using i
variable {x:World}{r:Go.Reach}{b:Nat}{t:TypeId}{o:Array Field}
theorem WA(d:P.underlying t=M (.struct o))(h:Value.okWide P x r b t v):∃c,v=.agg c:=by unfold Value.okWide at h;rw[d]at h;obtain⟨c,rfl,_⟩:=h;exact⟨c,rfl⟩
variable {e:TypeId}
theorem zaC(d:P.underlying t=M (.slice e))(h:Value.okWide P x r b t v):∃a n c,v=.slice a n c:=by
 unfold Value.okWide at h;rw[d]at h;simp only at h;unfold Cell.okWide at h;rw[d]at h;unfold Cell.ok at h;rw[d]at h;cases v<;>simp at h
 exact⟨_,_,_,rfl⟩
variable {k:IntKind}
theorem zn3(c:P.underlying t=M (.int k))(h:Value.okWide P x r b t v):∃n,v=.int k n:=by
 unfold Value.okWide at h;rw[c]at h;simp only at h;unfold Cell.okWide at h;rw[c]at h;unfold Cell.ok at h;rw[c]at h;cases v<;>simp at h
 exact⟨_,by rw[h.1]⟩
variable {c:World}{n:Nat}{j:DataW H}{l:List MemPlace}
theorem Re{q:Sh}(e:Sv P n t q=O)(i:q.isAgg=O)(k:P.underlying t=M (.struct o))(d:Value.okWide P c r b t v)
  (h:DataW.Trod enc P c 0 (λ_=>O) O t v j l):∃x:J q,Rv c U0 jD (zX q x) v:=by refine Cr e h ⟨λ_=>i,λ_=>WA k d⟩ (λg=>?_);rw[i]at g;cases g
theorem V8{d:World}{s:Sh}{o:List MemPlace}(k:Sv P n t (.sl s)=O)(l:P.underlying t=M (.slice e))(i:Value.okWide P d r b t v)
  (h:DataW.Trod enc P d 0 (λ_=>O) O t v j o):∃x:List (J s),Rv d U0 jD (.sl s x) v:=by obtain⟨a,m,c,rfl⟩:=zaC l i;exact Cr (s:=.sl s) k h ⟨(λ⟨_,g⟩=>(by cases g)),(λg=>(by cases g))⟩ (λ_=>rfl)
theorem zeI(g:Sv P n t (.int k)=O)(i:P.underlying t=M (.int k))(e:Value.okWide P c r b t v)
  (h:DataW.Trod enc P c 0 (λ_=>O) O t v j l):∃x:Int,Rv c U0 jD (.int k x) v:=by obtain⟨m,rfl⟩:=zn3 i e;exact Cr (s:=.int k) g h ⟨(λ⟨_,d⟩=>(by cases d)),(λd=>(by cases d))⟩ (λ_=>rfl)
theorem Qq{k:Nat->AV}{E:FuncId}{F:ah}(l:nZ P k E F){jn:List AV}{args:Array Value}(d:Dr k x U0)(n:di x U0 jD jn args.toList)(o:(F jn (λ_=>.dead) 0).val=M {val:=.bool O})(g:AV.idsL jn=[]):
  Calls P E args x λe j=>e=.returned (.bool O)/\lv x j/\∀b,b<x.heap.size->j.heap[b]?=x.heap[b]?:=by have:=(l.calls x U0 jD (λ_=>.dead) 0 jn args.toList _ [] o n (λ_ h=>h.elim) d ⟨sw,sw⟩ (by rw[g];simp) sw sw).1;rw[show args.toList.toArray=args by simp]at this;refine this.mono ?_;rintro e s ⟨v,q,t,rfl,c⟩;have i:=c.val;cases i;exact⟨rfl,c.ext,λb m=>c.same b m sw⟩
end
open Go Go.Proofs Go.RowKit Go.ChangeShapes Go.WideShapes Go.ChangeAt Go.Proofs.YtjdjldbhjmgmkaaGreatDoor
theorem Oj{P:Program}{w:World}:∀{l:List (String×DataW Unit)}{j:List MemPlace},DataW.LaidVars P w l j->∀n d,(n,d)∈l->
  ∃g t c x p,P.globalNamed n=M g/\(P.globals[g]?).map (·.type)=M t/\w.var? P n=M c/\DataW.trod (λ_=>()) P w 0 (λ_=>O) S x t c.toList=M (d,p)
 |[],_,_,_,_,h=>by simp at h
 | (n0,v)::r,j,h,n,d,i=>by
  have⟨g,t,c,x,p,q,k,m,o,s,u,_⟩:=h;rcases bX.1 i with e|i
  .cases e;exact⟨g,t,c,x,p,k,m,o,s⟩
  .exact Oj u n d i
variable {P:Program}{l:List (String×DataW Unit)}{w:World}
theorem KL(d:(l.filter λx=>x.2.handleName?.isSome).isEmpty=O)(h:laidMetH P l w):laidMet P l w:=by
 unfold laidMetH at h;split at h
 .exact h
 next a b c=>rw[c]at d;simp at d
variable {H:Type}{i:Nat->Bool}{n:Nat}{t:TypeId}{c:List Value}{p:List MemPlace}
theorem sx{enc:TypeId×Value->H}{x:Nat}{B:Bool}(e:P.underlying t=M .string){b:List UInt8}
  (h:DataW.trod enc P w x i B n t c=M (.lit (.string b),p)):c=[.string ⟨b.toArray⟩]:=by
 cases n with
 |zero=>simp[DataW.trod]at h
 | succ n=>
  unfold DataW.trod at h;rw[e]at h;split at h
  all_goals first
   |(rename_i d;cases d;done)
   |(rename_i d _;cases d;done)
   |(simp at h;done)
   |skip
  rename_i s d;split at h
  .simp only[bG,cN,DataW.lit.injEq,Lit.string.injEq]at h;rw[<-h.1]
  .cases h
theorem zb5{enc:TypeId×Value->H}{x:Nat}{B:Bool}(e:P.underlying t=M (.int .u64))
  (h:DataW.trod enc P w x i B n t c=M (.lit (.int .u64 z),p)):c=[.int .u64 z]:=by
 cases n with
 |zero=>simp[DataW.trod]at h
 | succ n=>
  unfold DataW.trod at h;rw[e]at h;split at h
  all_goals first
   |(rename_i d;cases d;done)
   |(rename_i d _;cases d;done)
   |(simp at h;done)
   |skip
  all_goals(try split at h)
  all_goals first
   |(cases h;done)
   |(simp at h;done)
   |skip
  all_goals simp_all
variable {e:TypeId}
theorem H0{i:World}(h:laidMet Tryz.prog l i){n:String}{g:Nat}{len:Nat}{C:List (DataW Unit)}(hm:(n,DataW.agg C)∈l)
  (F:Tryz.prog.globalNamed n=M g) (ht:(Tryz.prog.globals[g]?).map (·.type)=M t) (hu:Tryz.prog.underlying t=M (.array len e)) (hc:Tryz.prog.cellsOf e=1):
  ∃s x o,i.heap[g]?=M (.cells s x o)/\∀(j:Nat) d,C[j]?=M d->∃k p,DataW.trod (λ_=>()) Tryz.prog i 0 (λ_=>O) S k e ((s.toList.drop j).take 1)=M (d,p):=by
 have⟨ps,hL,_,_⟩:=h;have⟨g',t',s,k,p,D,E,q,m⟩:=Oj hL n _ hm;rw[F]at D;cases D;rw[ht]at E;cases E;have z:∃x o,i.heap[g]?=M (.cells s x o):=by
  unfold World.var? at q;rw[F]at q;simp only[Option.bind_some]at q;split at q
  next c x o hh=>cases q;exact⟨x,o,hh⟩
  .cases q
 have⟨x,o,u⟩:=z;refine⟨s,x,o,u,?_⟩;cases k with
 |zero=>simp[DataW.trod]at m
 | succ k=>
  unfold DataW.trod at m;rw[hu]at m;simp only at m;split at m
  .rw[dW]at m;have⟨xs,B,G⟩:=m;simp only[cN,DataW.agg.injEq]at G;have⟨hl,A⟩:=Ff B;intro j d v;rw[<-G.1,dK,dW]at v;obtain⟨⟨d',p'⟩,v,rfl⟩:=v;have y:j<X xs:=(dC.1 v).1;have hr:(List.range len)[j]?=M j:=by
    rw[Bl];rw[hl,List.length_range]at y;exact y
   have:=A j j hr;rw[v,hc,Nat.mul_one]at this;exact⟨k,p',this⟩
  .cases m
variable {v:Value}
theorem UG{c:Array Value}{j:Nat}(h:(c.toList.drop j).take 1=[v]):c[j]?=M v:=by have:=congrArg (·[0]?) h;simp only[M1,Bm]at this;simpa using this
theorem gl0{d:World}(h:laidMet Tryz.prog l d)(A:("caddis/stmt.types",Rows.laid_caddis_stmt_types)∈l):Rv d U0 jD (.eptr [.str [73,78,84],.str [84,69,88,84],.str [66,79,79,76]] 0) (.pointer (Q1 ⟨1,0,none⟩)):=by
 have⟨s,x,D,z,n⟩:=H0 h (g:=1) (t:=347) (e:=9) (len:=3) A kw kw kw kw;have m:Tryz.prog.underlying 9=M .string:=by kernel_rfl
 have i:∀j,d.cell? ⟨1,j,none⟩=s[j]?:=by
  intro j;unfold World.cell?;rw[z];rfl
 have⟨_,_,u⟩:=n 0 _ rfl;have⟨_,_,v⟩:=n 1 _ rfl;have⟨_,_,y⟩:=n 2 _ rfl;have q:=UG (sx m u);have B:=UG (sx m v);have C:=UG (sx m y);refine .eptr [.str [73,78,84],.str [84,69,88,84],.str [66,79,79,76]] 0 1 0 (λj=>match j with
  |0=>.string ⟨#[73,78,84]⟩
  |1=>.string ⟨#[84,69,88,84]⟩
  |_=>.string ⟨#[66,79,79,76]⟩) (wz (by rw[i];exact q)) (λh=>h) ?_ ?_ ?_
 .intro j o
  match j,o with
  |0,_=>rw[i];exact q
  |1,_=>rw[i];exact B
  |2,_=>rw[i];exact C
 .intro j o
  match j,o with
  |0,_=>rfl
  |1,_=>rfl
  |2,_=>rfl
 .intro j c k
  match j,k with
  |0,k=>simp at k;subst k;exact .str [73,78,84] (by simp[aE])
  |1,k=>simp at k;subst k;exact .str [84,69,88,84] (by simp[aE])
  |2,k=>simp at k;subst k;exact .str [66,79,79,76] (by simp[aE])
  |j+3,k=>simp at k
set_option maxRecDepth 100000 in
theorem gl2(h:x.ShapedOpen Tryz.prog):Rv x U0 jD .gint (.pointer (M ⟨0,0,none⟩)):=by
 have m:((begin Tryz.prog (λ_ _=>0) default).world.heap[0]?).bind Obj.row?=M (#[.int .i64 0],3):=by kernel_rfl
 have⟨d,s,z,y⟩:=h.1 0 _ _ (lm kw) m;have⟨D,g,_,e⟩:=y kw;have q:Tryz.prog.cellTypes Tryz.prog.depth 3=M [3]:=by kernel_rfl
 rw[q]at g;cases g;have o:d.size=1:=z;have⟨u,A,c⟩:=e 0 d[0] sw;have:u=3:=by simpa using A.symm
 subst this;have t:Tryz.prog.underlying 3=M (.int .i64):=by kernel_rfl
 unfold Cell.ok at c;rw[t]at c;have j:d=#[d[0]]:=by
  apply Array.ext
  .simp[o]
  .intro i B C;have:i=0:=by omega
   subst this;rfl
 cases l:d[0]<;>rw[l]at c<;>simp at c
 rename_i k n;obtain⟨rfl,v⟩:=c;refine .gint n 0 3 (0,0) v ?_ (λh=>h);rw[s,j,l]
theorem gl5{c:World}(h:laidMet Tryz.prog l c)(hs:c.ShapedOpen Tryz.prog)(G:("internal/strconv.uint64pow10",Rows.laid_internal_strconv_uint64pow10)∈l):Rv c U0 jD (.tab .u64 nO) (.pointer (Q1 ⟨5,0,none⟩)):=by
 have⟨k,x,A,v,E⟩:=H0 h (g:=5) (t:=391) (e:=268) (len:=20) G kw kw kw kw;have hu:Tryz.prog.underlying 268=M (.int .u64):=by kernel_rfl
 have B:((begin Tryz.prog (λ_ _=>0) default).world.heap[5]?).bind Obj.row?=M (Array.replicate 20 (.int .u64 0),391):=by kernel_rfl
 have⟨m,q,s,_⟩:=hs.1 5 _ _ (lm kw) B;rw[v]at q;have n:k=m:=by simp only[bG,Obj.cells.injEq]at q;exact q.1
 have d:k.size=20:=by rw[n,s];simp
 have u:k=(nO.map λz=>Value.int .u64 z).toArray:=by
  apply Array.ext
  .rw[d];rfl
  .intro i C D;have o:∀(j:Nat) z,nO[j]?=M z->k[j]?=M (.int .u64 z):=by
    intro j z hz;have⟨_,_,g⟩:=E j (.lit (.int .u64 z)) (by
     have:(match(Rows.laid_internal_strconv_uint64pow10:DataW Unit)with|.agg l=>l|_=>[])=nO.map λz=>DataW.lit (.int .u64 z):=by kernel_rfl
     have y:(match(Rows.laid_internal_strconv_uint64pow10:DataW Unit)with|.agg l=>l|_=>[])[j]?=M (.lit (.int .u64 z)):=by
      rw[this,dK,hz];rfl
     exact y)
    exact UG (zb5 hu g)
   have F:i<X nO:=by simpa using D
   have:=o i nO[i] (af F);rw[uf C,bG]at this;rw[this,List.getElem_toArray,List.getElem_map]
 exact .tab .u64 nO 5 x A (by rw[v,u]) (λh=>h)
theorem Z3:laidOutB Tryz.prog=O:=kw
def Au(P:Program)(t:TypeId):Bool:=match P.underlying t with
 |some (.struct _)=>O
 |_=>S
theorem KE(h:Au P t=O):∃x,P.underlying t=M (.struct x):=by
 unfold Au at h;split at h
 .exact⟨_,‹_›⟩
 .cases h
theorem un4:Tryz.prog.underlying 4=M .bool:=kw
theorem zwe{enc:TypeId×Value->H}(c:∀b,b<x.heap.size->A.heap[b]?=x.heap[b]?){d:DataW H}{g:List MemPlace}(m:Tryz.prog.readableRec t=O)(e:t<Tryz.prog.types.size)
  (h:DataW.Trod enc Tryz.prog x 0 (λ_=>O) O t v d g) (j:∀p∈g,p.block<x.heap.size)  (n:∀p∈g,i p.block=O):DataW.Trod enc Tryz.prog A 0 i O t v d g:=
 WideElems.Trod_stays Z3 m e h (λp l=>by
  have k:=c p.block (j p l);cases p with
  |cell b o=>exact World.cell?_of_block k
  |map b=>exact k) n
variable {h:World}
theorem zeE(x:laidMet Tryz.prog l h)(c:h.ShapedOpen Tryz.prog)(d:("caddis/stmt.types",Rows.laid_caddis_stmt_types)∈l)(e:("internal/strconv.uint64pow10",Rows.laid_internal_strconv_uint64pow10)∈l):Dr V5 h U0:=by
 intro g
 match g with
 |0=>exact gl2 c
 |1=>exact gl0 x d
 |2=>exact .any _
 |3=>exact .any _
 |4=>exact .any _
 |5=>exact gl5 x c e
 |g+6=>exact .any _
theorem Wz{r:Go.Reach}{b:Nat}(c:P.underlying t=M .string)(h:Value.okWide P x r b t v):∃n,v=.string n:=by
 unfold Value.okWide at h;rw[c]at h;simp only at h;unfold Cell.okWide at h;rw[c]at h;unfold Cell.ok at h;rw[c]at h;cases v<;>simp at h
 exact⟨_,rfl⟩
structure B8 (t:TypeId) (s:Sh):Prop where
 got:∀{H:Type}{enc:TypeId×Value->H}{W:World}{r:Go.Reach}{b:Nat}{v:Value}{d:DataW H}{ps:List MemPlace},Value.okWide Tryz.prog W r b t v->DataW.Trod enc Tryz.prog W 0 (λ_=>O) O t v d ps->∃x:J s,Rv W U0 jD (zX s x) v
 rd:Tryz.prog.readableRec t=O
 row:t<Tryz.prog.types.size
set_option maxRecDepth 100000 in
theorem B8.struct{s:Sh}(c:Sv Tryz.prog n t s=O)(e:s.isAgg=O)(g:Au Tryz.prog t=O)(j:Tryz.prog.readableRec t=O)(d:t<Tryz.prog.types.size):B8 t s where
 got:=λx h=>by
  have⟨k,i⟩:=KE g;exact Re c e i x h
 rd:=j
 row:=d
set_option maxRecDepth 100000 in
theorem B8.slice{s:Sh}(c:Sv Tryz.prog n t (.sl s)=O)(g:Tryz.prog.underlying t=M (.slice e))(i:Tryz.prog.readableRec t=O)(d:t<Tryz.prog.types.size):B8 t (.sl s) where
 got:=λx h=>V8 c g x h
 rd:=i
 row:=d
set_option maxRecDepth 100000 in
theorem B8.int{k:IntKind}(c:Sv Tryz.prog n t (.int k)=O)(e:Tryz.prog.underlying t=M (.int k))(g:Tryz.prog.readableRec t=O)(d:t<Tryz.prog.types.size):B8 t (.int k) where
 got:=λx h=>zeI c e x h
 rd:=g
 row:=d
set_option maxRecDepth 100000 in
theorem B8.str(d:Sv Tryz.prog n t .str=O)(e:Tryz.prog.underlying t=M .string)(g:Tryz.prog.readableRec t=O)(row:t<Tryz.prog.types.size):B8 t .str where
 got:=λc h=>by
  obtain⟨m,rfl⟩:=Wz e c;exact Cr (s:=.str) d h ⟨(λ⟨_,x⟩=>(by cases x)),(λx=>(by cases x))⟩ (λ_=>rfl)
 rd:=g
 row:=row
inductive PY:List TypeId->List Sh->Prop
 |nil:PY [] []
 |cons {t:TypeId} {s:Sh} {ts:List TypeId} {ss:List Sh} (h:B8 t s) (r:PY ts ss):PY (t::ts) (s::ss)
variable {u:List TypeId}{D:List Sh}
set_option maxRecDepth 100000 in
theorem PY.got(h:PY u D):∀{H:Type}{enc:TypeId×Value->H}{e:World}{base:Nat}{m:List Value}{n:List (DataW H)}{o:List MemPlace},
  (∀(j:Nat) t v,u[j]?=M t->m[j]?=M v->Value.okWide Tryz.prog e .any base t v)->DataW.TrodAll enc Tryz.prog e 0 (λ_=>O) O u m n o->
  n.length=X u/\(∃x:zF (D.map M),di e U0 jD (jn (D.map M) x) m)/\
  ∀E,(∀b,b<e.heap.size->E.heap[b]?=e.heap[b]?)->(∀p∈o,p.block<e.heap.size)->∀F:Nat->Bool,(∀p∈o,F p.block=O)->DataW.TrodAll enc Tryz.prog E 0 F O u m n o:=by
 induction h with
 | nil=>
  intro H enc e base m n o _ G;obtain⟨rfl,rfl,rfl⟩:=trodAll_nil G;exact⟨rfl,⟨(),rfl,λj c v i=>by
   have h0:([]:List AV)[j]?=M c:=i;simp at h0⟩,λ_ _ _ _ _=>trodAll_mk0⟩
 | @cons t s u D h r IH=>
  intro H enc e base m n o A G;obtain⟨v,m,d,n,p,q,rfl,rfl,rfl,hd,l⟩:=trodAll_cons G;have⟨x,hx⟩:=h.got (A 0 t v rfl rfl) hd;have⟨hl,⟨y,hy⟩,hk⟩:=IH (λj t v ht C=>A (j+1) t v ht C) l;refine⟨by simp[hl],⟨(x,y),by show(zX s x::jn (D.map M) y).length=_;simp[hy.len],λj c v' i C=>?_⟩,λE g z F B=>?_⟩
  .have i:(zX s x::jn (D.map M) y)[j]?=M c:=i;cases j with
   | zero=>
    simp only[List.getElem?_cons_zero,bG]at i C;subst i;subst C;exact hx
   |succ j=>exact hy.rv j c v' i C
  .exact trodAll_cons_mk (zwe g h.rd h.row hd (λp k=>z p (by simp[k])) (λp k=>B p (by simp[k]))) (hk E g (λp k=>z p (by simp[k])) F (λp k=>B p (by simp[k])))
theorem SW:∀(d:List Sh)(x:zF (d.map M)),AV.idsL (jn (d.map M) x)=[]
 |[],_=>rfl
 | s::d,x=>by
  show(zX s x.1).ids++AV.idsL (jn (d.map M) x.2)=[];rw[SW d x.2,wn];unfold zX;have i:∀l:List AV,(∀c∈l,c.ids=[])->AV.idsL l=[]:=by
   intro l
   induction l with
   |nil=>intro _;rfl
   |cons c l n=>intro h;simp only[AV.idsL,h c sw,n λc e=>h c (by simp[e]),wn]
  have g:∀c∈zD s x.1,c.ids=[]:=λc e=>by
   obtain⟨j,m,rfl⟩:=fK e;exact nh s x.1 j _ (af m)
  cases s.isAgg with
  |true=>exact i _ g
  | false=>
   cases k:zD s x.1 with
   |nil=>rfl
   |cons c l=>exact g c (by rw[k];simp)
set_option maxRecDepth 100000 in
theorem VA{E:FuncId}{f:Func}{s:ChangeSpec}{F:ah}(hF:nZ Tryz.prog V5 E F)(d:f.params=u.toArray)(y:PY u D)(z:f.resultTypes=#[4])(i:s.vars=[])
  (G:∀(H:Type)(l:List (DataW H)),X l=X u->s.fn H l={results:=[.lit (.bool O)],args:=l})
   {enc:TypeId×Value->H}  {m:Nat} {args:Array Value} {l gs:List (DataW H)} {k:List MemPlace}
  (hv:∀x:zF (D.map M),di h U0 jD (jn (D.map M) x) args.toList->(F (jn (D.map M) x) (λ_=>.dead) 0).val=M {val:=.bool O})
  (A:∀(j:Nat) t v,f.params[j]?=M t->args[j]?=M v->Value.okWide Tryz.prog h .any m t v)
  (hW:DataW.Whole enc Tryz.prog f.params.toList s.vars S h args.toList l gs k) (h0:Dr V5 h U0):
  Calls Tryz.prog E args h λe B=>∃v,e=.returned v/\s.post enc Tryz.prog f S O S S h args v B:=by
 have o:=hW;obtain⟨p,q,C,hV,rfl,h3,h4⟩:=hW;have hA:DataW.TrodAll enc Tryz.prog h 0 (λ_=>O) O f.params.toList args.toList l p:=C;rw[d]at hA;rw[i]at hV;obtain⟨rfl,rfl⟩:=trodVars_none hV;have h1:=o.lt;have⟨hl,⟨x,hx⟩,hk⟩:=y.got (base:=m) (λj t v ht hv=>A j t v (by rw[d];simpa using ht) (by simpa using hv)) hA;have hc:=Qq hF (args:=args) h0 hx (hv x hx) (SW D x);refine hc.mono λe' B ⟨he,c,g⟩=>?_
 subst he;have n:s.fn H (l++[])={results:=[.lit (.bool O)],args:=l}:=by rw[wn];exact G H l hl
 refine⟨_,rfl,OK (pa:=p) (pv:=[]) o (λ_ _ _=>?_) (λsp h2=>?_) (λ_ _=>?_) sw (KG c.os c.out g _) c.fr (ok_one z rfl (okWide_bool_mk un4 _))⟩
 .rw[n,z];exact trodAll_cons_mk (shut_bool un4 _) trodAll_mk0
 .rw[n,d];exact hk B g (λp y=>h1 p (by simpa using y)) sp (λp y=>h2 p (by simpa using y))
 .rw[n,i];rfl
open Go Go.Proofs Go.RowKit Go.ChangeShapes Go.WideShapes Go.ChangeAt
section
variable {w:World} {U:Nat->Prop} {ρ:Nat->Option Value}
def PW(w:World)(U:Nat->Prop)(ρ:Nat->Option Value)(l:List AV):Prop:=∀(j:Nat)(c:AV),l[j]?=M c->∃v,Rv w U ρ c v
variable {v:Value}
theorem N9{z:Int}(h:Rv w U ρ (L z) v):-9223372036854775808<=z/\z<=9223372036854775807:=by
 cases h with
 |int _ _ h=>simpa[du,IntKind.min,IntKind.max,IntKind.signed,IntKind.bits]using h
theorem tW{q:Sh}{l:List (J q)}(h:Rv w U ρ (.sl q l) v):∀x∈l,PW w U ρ (zD q x):=by
 intro x e;cases h with
 |sl0=>simp at e
 | sl _ _ _ _ _ g s t o n d m=>
  obtain⟨i,k,rfl⟩:=fK e;exact λj c h=>⟨_,m i k j c h⟩
theorem Zs{G:zp}(h:PW w U ρ (zD K G)):RgV G:=by have⟨_,h⟩:=h 1 _ rfl;exact N9 h
mutual
theorem EU:∀(e:zg),PW w U ρ (zD .expr e)->Xh e
 | .mk o v s l,h=>by
  rw[Xh];have⟨_,c⟩:=h 2 _ rfl;have⟨_,d⟩:=h 5 _ rfl;exact⟨N9 c,Ts l λx g=>tW d x g⟩
theorem Ts:∀(l:List zg),(∀x∈l,PW w U ρ (zD .expr x))->JX l
 |[],_=>by rw[JX];trivial
 |x::r,h=>by rw[JX];exact⟨EU x (h x sw),Ts r λy c=>h y (by simp[c])⟩
end
theorem zmL{x:ae}(h:PW w U ρ (zD zl x)):RgR x where
 chk:=EU _ λj c d=>match j,d with
  |0,d=>h 5 c d
  |1,d=>h 6 c d
  |2,d=>h 7 c d
  |3,d=>h 8 c d
  |4,d=>h 9 c d
  |5,d=>h 10 c d
  |j+6,d=>by simp[zD]at d
 vals:=by
  have⟨_,h⟩:=h 11 _ rfl;intro r e v g;have⟨_,h⟩:=tW h r e 0 _ rfl;exact Zs (tW h v g)
end
variable {U:Nat->Prop}{ρ:Nat->Option Value}
theorem XM{C:List AV}(h:Rv w U ρ (.agg C) v):PW w U ρ C:=by
 intro j c x;cases h with
 | agg _ d k i g=>
  have e:j<X d:=by have:=(dC.1 x).1;omega
  exact⟨d[j],g j c _ x (af e)⟩
theorem zmM(h:PW w U ρ (zD aB s)):RgS s where
 chk:=EU _ λj c d=>match j,d with
  |0,d=>h 8 c d
  |1,d=>h 9 c d
  |2,d=>h 10 c d
  |3,d=>h 11 c d
  |4,d=>h 12 c d
  |5,d=>h 13 c d
  |j+6,d=>by simp[zD]at d
 whr:=EU _ λj c d=>match j,d with
  |0,d=>h 16 c d
  |1,d=>h 17 c d
  |2,d=>h 18 c d
  |3,d=>h 19 c d
  |4,d=>h 20 c d
  |5,d=>h 21 c d
  |j+6,d=>by simp[zD]at d
 row:=by
  have⟨_,h⟩:=h 14 _ rfl;exact λv e=>Zs (tW h v e)
 sets:=by
  have⟨_,h⟩:=h 15 _ rfl;intro x g;have h:=tW h x g;exact EU _ λj c d=>match j,d with
   |0,d=>h 1 c d
   |1,d=>h 2 c d
   |2,d=>h 3 c d
   |3,d=>h 4 c d
   |4,d=>h 5 c d
   |5,d=>h 6 c d
   |j+6,d=>by simp[zD]at d
theorem zgm(h:Rv x U0 jD (.int .u8 z) v):0<=z/\z<=255:=by
 cases h with
 |int _ _ h=>exact h
theorem X9(x:zF ([.sl zl,aB,(.int .u8)].map M)){g:World}(k:di g U0 jD (jn ([.sl zl,aB,(.int .u8)].map M) x) c):(F7q (jn ([.sl zl,aB,(.int .u8)].map M) x) (λ_=>.dead) 0).val=M {val:=.bool O}:=by
 have⟨db,s,n,u⟩:=x;have k:di g U0 jD [.sl zl db,zX aB s,.int .u8 n] c:=k;have C:=k.len;have i:∀j d,([.sl zl db,zX aB s,.int .u8 n]:List AV)[j]?=M d->∃v,Rv g U0 jD d v:=λj d m=>by
  have l:j<X c:=by rw[<-C];exact(dC.1 m).1
  exact⟨c[j],k.rv j d _ m (af l)⟩
 have⟨D,o⟩:=i 0 _ rfl;have⟨E,A⟩:=i 1 _ rfl;have⟨F,B⟩:=i 2 _ rfl;have e:s=(s.1,s.2.1,s.q.1,s.r.1,s.t.1,s.u.1,s.v.1,s.w.1,zt s.x.1,s.y.1,s.z.1,zt s.s.1,s.p):=by rw[zo,zo]
 have h:(F7q [.sl zl db,zX aB s,.int .u8 n] (λ_=>.dead) 0).val=(chk (KJ db (s.1,s.2.1,s.q.1,s.r.1,s.t.1,s.u.1,s.v.1,s.w.1,zt s.x.1,s.y.1,s.z.1,zt s.s.1,s.p) n).isSome (Tr.ok ({val:=.bool ((KJ db (s.1,s.2.1,s.q.1,s.r.1,s.t.1,s.u.1,s.v.1,s.w.1,zt s.x.1,s.y.1,s.z.1,zt s.s.1,s.p) n).getD (cH [.bool])).1}:gy))).val:=by kernel_rfl
 show(F7q [.sl zl db,zX aB s,.int .u8 n] (λ_=>.dead) 0).val=_;rw[h,<-e,zfg (zgm B) (tW o · · |>zmL) (zmM (XM A))];rfl
end
end Cad
