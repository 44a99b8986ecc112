/- The builder of texts. -/
import Derived.Test.YtgcekmmgphhofaaGreatDoorR34
import Derived.Stop.RegionWithIn
namespace Cad
open Go Go.Proofs Go.RowKit Tryz
open List renaming length->M
open IntKind renaming wrap->Γ,i64->Δ
open Tr renaming chk->Qd,«to»->Qa
open Sh renaming bool->Q8,str->Q7
open Bool renaming true->Z,false->J
open Option renaming none->Q2,some->Y
open Decidable renaming decide->L
open Cad renaming ow->S,Sem->N,Tr->K,ai->I,ze->Q
set_option maxHeartbeats 4000000
set_option maxRecDepth 100000
open Tr (chk br)
open AV (nils agg tup ptr kb)
open AV renaming sl->O,str->X
noncomputable section
theorem I5:∃j,prog.info? 60=Y j/\j.size=2:=by
 have h:(prog.info? 60).map (·.size)=Y 2:=by kernel_rfl
 have⟨j,x,a⟩:=dG.1 h;exact⟨j,x,a⟩
theorem Ul:liesAt prog prog.depth xZ (2/prog.cellsOf xZ) 0 60 1=Z:=kw
theorem Gd:prog.underlying 58=Y (.pointer 60):=kw
theorem OF:prog.underlying 210=Y .unsafePointer:=kw
theorem zby(b:Nat)(w:World)(a:w.cell? ⟨b,0,Q2⟩=Y (.pointer (Y ⟨b,0,Q2⟩))):
  Calls prog 87 #[.pointer (Y ⟨b,0,Q2⟩)] w λe x=>e=.returned (.tuple #[])/\x=w:=by
 have⟨j,h,_⟩:=I5
 go_enter func87,ntmps87
 go_wp2
 rw[Lib.run_neq_ptr_same w _ Gd h]
 go_wp2
 go_end0
 exact⟨rfl,rfl⟩
theorem VJ(b:Nat)(w:World)(g:w.cell? ⟨b,0,Q2⟩=Y (.pointer Q2))(h:w.shape? b=Y (xZ,2))(c:w.frozen? ⟨b,0,Q2⟩=J):
  Calls prog 87 #[.pointer (Y ⟨b,0,Q2⟩)] w λe d=>e=.returned (.tuple #[])/\d=w.setCell ⟨b,0,Q2⟩ (.pointer (Y ⟨b,0,Q2⟩)):=by
 have⟨j,a,x⟩:=I5
 go_enter func87,ntmps87
 go_wp2
 rw[Lib.run_to_unsafe w ⟨b,0,Q2⟩ Gd OF a (by rw[x];decide) h (Nat.zero_lt_succ 1)];simp only[Result.andThen];rw[Oper.upon_value]
 go_wp2
 rw[run_callFunc_extern func137 kw kw kw (e:=Extern.AbiNoEscape.same) kw];rw[Lib.run_noEscape];simp only[Result.andThen];rw[Oper.upon_value]
 go_wp2
 rw[Lib.run_from_unsafe w ⟨b,0,Q2⟩ OF Gd a h Ul];simp only[Result.andThen];rw[Oper.upon_value]
 go_wp2
 go_end0
 exact⟨rfl,rfl⟩
def Tw:zV:=λargs h _=>match args with
 | [.ptr id 0]=>match h id with
  |.box [.nilp,c]=>.ok {val:=.tup [],wr:=[(id,.box [.ptr id 0,c])]}
  |.box [.ptr i 0,_]=>if i=id then ret (.tup [])else .err
  |_=>.err
 |_=>.err
theorem YU:FK 87 Tw where
 fn:=⟨f87,kw,kw,kw⟩
 calls:=λw U ρ hp n args A f fp g C u h2 F H h0 h3=>by
  unfold Tw at g;split at g
  case h_2=>simp at g
  rename_i id;have hl:=C.len
  match A,hl,C with
  |[va],_,C=>
  have z:=C.rv 0 _ va rfl rfl;have y:id∈fp:=H id (by simp[AV.idsL,AV.ids]);have D:=F.ob id y;cases z with
  |ptr _ _ b d=>
  split at g
  .rename_i c i;simp only[Tr.val_ok,ax]at g;subst g;rw[i]at D;have⟨b',h,a,s,hU,o,x,P,hT⟩:=D;rw[d]at s;cases s;obtain rfl:h=xZ:=hT rfl;obtain⟨l,m,k⟩:∃l m,a.toList=[l,m]:=by
    have:=x.len
    match hh:a.toList,this with
    |[p,q],_=>exact⟨p,q,rfl⟩
   have z:=x.rv 0 _ l rfl (by rw[k];rfl);cases z;have E:a=#[.pointer Q2,m]:=by apply fG;simpa using k
   subst E;refine⟨(VJ b w (by simp[World.cell?,o]) (by simp[World.shape?,o]) (by simp[World.frozen?,o])).mono ?_,by simp;exact y⟩;rintro e w' ⟨rfl,rfl⟩
   have he:=Ef.store (n:=n) (off:=0) u i d hU o x P (vs:=[.ptr id 0]) (vv:=[.pointer (Y ⟨b,0,Q2⟩)])
    ⟨rfl,λj c v hc k=>by
     cases j with
     |zero=>cases hc;cases k;exact .ptr id 0 b d
     |succ j=>simp at hc⟩ (by simp[Value.oneCell']) (λ_=>rfl)
   exact⟨_,U,ρ,rfl,{he with val:=.tup [] [] rfl sw}⟩
  .rename_i h4 c i;split at g
   case isFalse=>simp at g
   rename_i G;subst G;simp at g;subst g;rw[i]at D;have⟨b',h,a,s,hU,o,x,P,hT⟩:=D;rw[d]at s;cases s;obtain⟨l,m,k⟩:∃l m,a.toList=[l,m]:=by
    have:=x.len
    match hh:a.toList,this with
    |[p,q],_=>exact⟨p,q,rfl⟩
   have z:=x.rv 0 _ l rfl (by rw[k];rfl);cases z with
   |ptr _ _ b2 t=>
   rw[d]at t;cases t;have E:a=#[.pointer (Y ⟨b,0,Q2⟩),m]:=by apply fG;simpa using k
   subst E;refine⟨(zby b w (by simp[World.cell?,o])).mono ?_,sw⟩;rintro e w' ⟨rfl,rfl⟩;exact⟨_,U,ρ,rfl,Ef.pure u (.tup [] [] rfl sw)⟩
  .simp at g
theorem X5(b g c:Nat)(p:Value)(l:zD)(h:Array Value)(w:World)(o:l≠[])(i:w.heap[b]?=Y (.cells #[p,.slice (Y ⟨g,0,Q2⟩) (M l) c] xZ (0,0)))
  (u:w.heap[g]?=Y (.cells h Yl (0,0))) (n:0<c) (k:M l<=h.size) (d:M l<=9223372036854775807) (t:∀(j:Nat)(x:UInt8),l[j]?=Y x->h[j]?=Y (Value.int .u8 x.toNat)):
  Calls prog 20 #[.pointer (Y ⟨b,0,Q2⟩)] w λe y=>e=.returned (.string ⟨l.toArray⟩)/\y=w.drew.freeze ⟨g,0,Q2⟩ (M l):=by
 have z:w.drew.cell? ⟨b,1,Q2⟩=Y (.slice (Y ⟨g,0,Q2⟩) (M l) c):=by
  have:w.drew.heap[b]?=Y (.cells #[p,.slice (Y ⟨g,0,Q2⟩) (M l) c] xZ (0,0)):=i;rw[Lib.cell_of_heap this];rfl
 have q:(Builtin.unsafeSliceData_ #[51] 116 #[.slice (Y ⟨g,0,Q2⟩) (M l) c]).run prog w.drew=.ok (.pointer (Y ⟨g,0,Q2⟩)) w.drew:=
  Lib.run_unsafeSliceData_row _ _ _ _ _ _ S
 have s:(Builtin.unsafeString_ #[116,3] 9 #[.pointer (Y ⟨g,0,Q2⟩),.int .i64 (M l)]).run prog w.drew=.ok (.string ⟨l.toArray⟩) (w.drew.freeze ⟨g,0,Q2⟩ (M l)):=by
  have a:w.drew.heap[g]?=Y (.cells h Yl (0,0)):=u;refine Lib.run_unsafeString_row w.drew 116 3 9 Yl kw kw g h.size (by simp[World.shape?,a]) l o k d ?_;intro j x v;rw[Addr.add_none,dz];have:=t j x v;simp[World.cell?,a,this]
 have m:prog.follows .mixedOrders=Z:=WK
 go_enter func20,ntmps20
 go_wp2
 go_region_o
 all_goals(go_wp2;go_ret;exact⟨rfl,rfl⟩)
def zea:zV:=λargs h _=>match args with
 | [.ptr id 0]=>match h id with
  | .box [.ptr _ 0,.vec k]=>match h k with
   |.vec (.int .u8) l=>.chk (L (0<M l)) (if id=k then .err else .ok {val:=.str (aL l),wr:=[(id,.dead),(k,.dead)]})
   |_=>.err
  |_=>.err
 |_=>.err
theorem zeW:FK 20 zea where
 fn:=⟨f20,kw,kw,kw⟩
 calls:=λw U ρ hp n args h8 f fp m hr x5 x9 h4 x3 x1 a2=>by
  unfold zea at m;split at m
  case h_2=>simp at m
  rename_i id;split at m
  case h_2=>simp at m
  rename_i a4 k P;split at m
  case h_2=>simp at m
  rename_i l hv;simp only[Tr.val_chk,aT]at m;have⟨h0,m⟩:=m;split at m
  case isTrue=>simp at m
  rename_i a1;simp only[Tr.val_ok,ax]at m;subst m;have hl:=hr.len
  match h8,hl,hr with
  |[va],_,hr=>
  have r0:=hr.rv 0 _ va rfl rfl;have H:id∈fp:=x3 id (by simp[AV.idsL,AV.ids]);have h7:k∈fp:=x1 id H k (by simp[P,AO.ids,AV.idsL,AV.ids]);have ob:=h4.ob id H;have ov:=h4.ob k h7;cases r0 with
  |ptr _ _ b x0=>
  rw[P]at ob;rw[hv]at ov;have⟨t,c,C,e1,hU,hB,h5,h1,hT⟩:=ob;rw[x0]at e1;cases e1;obtain rfl:c=xZ:=hT rfl;obtain⟨v0,v1,h6⟩:∃v0 v1,C.toList=[v0,v1]:=by
   have:=h5.len
   match hh:C.toList,this with
   |[p,q],_=>exact⟨p,q,rfl⟩
  have r1:=h5.rv 1 _ v1 rfl (by rw[h6];rfl);have⟨a,u,k1,hm,h3⟩:=ov;cases r1 with
  |vec _ _ k2 _=>
  rw[k1]at k2;cases k2;rcases h3 with⟨h,_⟩|⟨g,T2,A,rfl,hc,x8,hG,x4,a0,E,h9⟩
  .rw[h]at h0;simp at h0
  obtain rfl:T2=Yl:=h9 rfl;have ha:C=#[v0,.slice (Y ⟨g,0,Q2⟩) (M l) u]:=by apply fG;simpa using h6
  subst ha;have s:(aL l).length=M l:=by simp[aL]
  have a3:A.size=u:=by rw[x4];show u*1=u;omega
  have x2:∀(j:Nat)(x:UInt8),(aL l)[j]?=Y x->A[j]?=Y (Value.int .u8 x.toNat):=by
   intro j x hx;have hj:j<M l:=by have:=(cQ.1 hx).1;rwa [s]at this
   have⟨y,y1,y2⟩:=E j hj 0 (.int .u8 l[j]) rfl;have y1:A[j]?=Y y:=by simpa[Sh.size]using y1
   have x6:x=UInt8.ofNat (l[j]:Int).toNat:=by
    unfold aL at hx;rw[b8,zQ hj]at hx;simpa using hx.symm
   cases y2 with
   |int _ _ hn=>
   rw[y1,x6];have x7:∀z:Int,0<=z->z<=255->((UInt8.ofNat z.toNat).toNat:Int)=z:=λz h1 h2=>by
    simp only[UInt8.toNat_ofNat'];omega
   have:((UInt8.ofNat (l[j]:Int).toNat).toNat:Int)=l[j]:=x7 _ hn.1 hn.2;rw[this]
  refine⟨(X5 b g u v0 (aL l) A w (by intro e;rw[e]at s;simp at s;omega) (by rw[s];exact hB) hG hc S (by rw[s];exact hm) x2).mono ?_,λi o d=>by
   simp at d;rcases d with⟨rfl,_⟩|⟨rfl,_⟩
   .exact H
   .exact h7⟩
  rintro e w' ⟨rfl,rfl⟩;have F:zY ρ k (hp k) g:=⟨by rw[hv];rfl,_,k1,by simp[bz];omega⟩;have G:∀t,t≠g->(w.drew.freeze ⟨g,0,Q2⟩ (aL l).length).heap[t]?=w.heap[t]?:=by
   intro t D;unfold World.freeze;split
   .rfl
   .show(w.heap.modify g _)[t]?=_;rw[oe,zh (λe=>D e.symm)]
  have v:(w.drew.freeze ⟨g,0,Q2⟩ (aL l).length).heap.size=w.heap.size:=by
   unfold World.freeze;split
   .rfl
   .show(w.heap.modify g _).size=_;rw[Array.size_modify]
  refine⟨_,U,ρ,rfl,⟨by rw[v];exact zK _,?_,?_,?_⟩,.str _ (by rw[s];exact hm),?_,sw,λ_ _=>rfl,λ_ _ h=>h,?_,?_,λ_ _ h=>h,λ_ _ h _=>h,?_,?_⟩
  .unfold World.freeze;split<;>rfl
  .unfold World.freeze;split<;>rfl
  .unfold World.freeze;split<;>rfl
  .intro i o d;simp at d;rcases d with⟨_,rfl⟩|⟨_,rfl⟩<;>trivial
  .intro t _ hn;exact G t (λe=>hn k .dead sw (e▸F))
  .intro t D;rw[v];exact x5 t D
  .rintro i o t (d|⟨_,d⟩) ho
   .simp at d;rcases d with⟨_,rfl⟩|⟨_,rfl⟩<;>(obtain⟨h,_⟩:=ho;simp[AO.owns]at h)
   .simp at d
  .rintro i1 o1 i2 o2 t (d|⟨_,d⟩) _ ho _
   .simp at d;rcases d with⟨_,rfl⟩|⟨_,rfl⟩<;>(obtain⟨h,_⟩:=ho;simp[AO.owns]at h)
   .simp at d
open Go Go.Proofs
open Tr (chk br re)
abbrev eG:Sh:=.pr (.sl zl) (.sl aD)
abbrev iD:=N eG
def Vh:bS:={OV with sh:=λt=>if t=66 then Y aD else if t=55 then Y cZ else OV.sh t}
theorem dA:zm Vh where
 sh:=λt e h=>by
  have x:(ite (t=66) (Y aD) (ite (t=55) (Y cZ) (OV.sh t)))=Y e:=h;split at x
  next a=>subst a;cases x;exact pL kw
  .split at x
   next _ a=>subst a;cases x;exact pL kw
   .exact vH.sh t e x
 fs:=vH.fs
 mix:=vH.mix
def zdC(x:zy):K (Empty⊕ac):=
 Qd Z (re (I (Γ Δ ((Γ Δ (x+7)).tdiv 8))) [])
def Qr(x:zy):=aA [zi] t0 100000000 (zdC x)
def Ye(x:zy):=(Qr x).isSome
def ziV(x:zy):=o1 (Qr x)
def zcb:=FT [zi] [zi] λx=>Qr x.1
theorem Y8:FK 122 zcb:=dA.T1 (f:=f122) (keep:=k0) (e:=e0)
def zdD(x:N ((Sh.int IntKind.u8).sl))(b:zy):K (Empty⊕ac):=
 let a:=Γ Δ (Int.tdiv b 8)
 let h:=Γ Δ (Int.tmod b 8)
 Qd Z
 (Qd (zT a (M x))
  (Qd Z (Qd (L (0<=h)) (re (AV.bool (IntKind.u8.wrap (↑(BitVec.ofInt IntKind.u8.bits (Int.fdiv (List.getD x a.toNat (zk (Sh.int IntKind.u8))) (2^min h.toNat IntKind.u8.bits)) &&& BitVec.ofInt IntKind.u8.bits 1).toNat:Int)==1)) []))))
def Qo(x:N ((Sh.int IntKind.u8).sl))(h:zy):=aA [Q8] t0 100000000 (zdD x h)
def FH(x:N ((Sh.int IntKind.u8).sl))(h:zy):=(Qo x h).isSome
def qV(x:N ((Sh.int IntKind.u8).sl))(h:zy):=o1 (Qo x h)
def Od:=FT [(Sh.int IntKind.u8).sl,zi] [Q8] λx=>Qo x.1 x.2.1
theorem Oj:FK 123 Od:=dA.T1 (f:=f123) (keep:=k0) (e:=e0)
abbrev zhT:=fZ [(4,[0,8,9,10])]
inductive DU where
 |h4 (l0:zo) (l8:zo) (i9:Int) (i10:Int)
abbrev zm3:DU->Nat×St
 |.h4 l x h i=>(4,⟨tm 36 [(0,O Q l),(8,O Q x),(9,I h),(10,I i)],[]⟩)
def Pm(x:N ze.sl):K (DU⊕ac):=
 br (L ((M x:Int)>200)) (re (kb J) []) (Qa (DU.h4 x x (M x:Int) 0))
def xQ:DU->K (DU⊕ac)
 | .h4 l h c i=>
  let a:=h.getD i.toNat (zk Q)
  let x:=L (i>0)
  let b:=Γ Δ (i-1)
  let d:=aV (l.getD b.toNat (zk Q)) a
  br (L (i<c))
  (Qd (zT i (M h)) (br (cond (!aP a) Z (a.1==0)) (re (kb J) []) (Qd (cond x (zT b (M l)) Z) (br (cond x (L (d>=0)) J) (re (kb J) []) (Qa (DU.h4 l h c (Γ Δ (i+1))))))))
  (re (kb Z) [])
def Qs(x:N ze.sl):=aA [Q8] xQ 100000000 (Pm x)
def Yf(x:N ze.sl):=(Qs x).isSome
def zbs(x:N ze.sl):=o1 (Qs x)
def zca:=FT [ze.sl] [Q8] λx=>Qs x.1
theorem Y7:FK 121 zca:=dA.T1 (f:=f121) (keep:=zhT) (e:=zm3)
def zhp(x:N Q7):K (Empty⊕ac):=
 br (L ((M x:Int)>20))
 (Qd (L (0<=0)&&L (0<=20)&&L (20<=(M x:Int)))
  (re (X (List.take (Int.toNat 20-Int.toNat 0) (List.drop (Int.toNat 0) x))) []))
 (re (X x) [])
def yD(x:N Q7):=aA [Q7] t0 100000000 (zhp x)
def yC(x:N Q7):=(yD x).isSome
def pl(x:N Q7):=o1 (yD x)
def zkw:=FT [Q7] [Q7] λx=>yD x.1
theorem zfB:FK 34 zkw:=dA.T1 (f:=f34) (keep:=k0) (e:=e0)
def zhv(h x:jD):K (Empty⊕ac):=
 let a:=Nk [Lib.compareBytes h.1 x.1,Lib.compareBytes h.2.1 x.2.1]
 br (cond (a !=0) Z (h.q==x.q)) (re (I a) [])
 (br x.q (re (I (-1)) []) (re (I 1) []))
def Pb(x h:jD):=aA [zi] t0 100000000 (zhv x h)
def VK(x h:jD):=(Pb x h).isSome
def znb(x h:jD):=o1 (Pb x h)
def zk3:=FT [aD,aD] [zi] λx=>Pb x.1 x.2.1
theorem zf8:FK 109 zk3:=dA.T1 (f:=f109) (keep:=k0) (e:=e0)
def ztK(x:N Q7):K (Empty⊕ac):=
 re (AV.bool (cond (fg x) (!mM x) J)) []
def MU(x:N Q7):=aA [Q8] t0 100000000 (ztK x)
def BA(x:N Q7):=(MU x).isSome
def Fa(x:N Q7):=o1 (MU x)
def zk0:=FT [Q7] [Q8] λx=>MU x.1
theorem zf5:FK 108 zk0:=dA.T1 (f:=f108) (keep:=k0) (e:=e0)
abbrev zhF:=fZ [(4,[0,1,12,13])]
inductive DQ where
 |h4 (l0:zo) (l1:zo) (i12:Int) (i13:Int)
abbrev zmW:DQ->Nat×St
 |.h4 l x i h=>(4,⟨tm 26 [(0,O Q l),(1,O Q x),(12,I i),(13,I h)],[]⟩)
def Pi(x h:N ze.sl):K (DQ⊕ac):=
 br ((M x:Int)!=(M h:Int)) (re (kb J) []) (Qa (DQ.h4 x h (M x:Int) 0))
def zd5:DQ->K (DQ⊕ac)
 | .h4 l b h i=>
  let a:=l.getD i.toNat (zk Q)
  let x:=b.getD i.toNat (zk Q)
  br (L (i<h))
  (Qd (zT i (M l)) (Qd (zT i (M b)) (br (!(a.1==x.1&&(a.2.1==x.2.1&&(a.q==x.q&&Z)))) (re (kb J) []) (Qa (DQ.h4 l b h (Γ Δ (i+1)))))))
  (re (kb Z) [])
def HV(x h:N ze.sl):=aA [Q8] zd5 100000000 (Pi x h)
def NF(x h:N ze.sl):=(HV x h).isSome
def Lh(x h:N ze.sl):=o1 (HV x h)
def zbK:=FT [ze.sl,ze.sl] [Q8] λx=>HV x.1 x.2.1
theorem YI:FK 77 zbK:=dA.T1 (f:=f77) (keep:=zhF) (e:=zmW)
abbrev zoX:=fZ [(4,[0,1,5])]
inductive QT where
 |h4 (l0:List (N (Sh.str.pr (Sh.str.pr Q8)))) (l1:List (N (Sh.str.pr (Sh.str.pr Q8)))) (i5:Int)
abbrev zsb:QT->Nat×St
 |.h4 l h i=>(4,⟨tm 26 [(0,O (Sh.str.pr (Sh.str.pr Q8)) l),(1,O (Sh.str.pr (Sh.str.pr Q8)) h),(5,I i)],[]⟩)
def zay(x h:N aD.sl):K (QT⊕ac):=
 br ((M x:Int)!=(M h:Int)) (re (kb J) []) (Qa (QT.h4 x h 0))
def zqS:QT->K (QT⊕ac)
 | .h4 l x i=>
  let a:=l.getD i.toNat (zk (Sh.str.pr (Sh.str.pr Q8)))
  let h:=x.getD i.toNat (zk (Sh.str.pr (Sh.str.pr Q8)))
  br (L (i<(M l:Int)))
  (Qd (zT i (M l)) (Qd (zT i (M x)) (br (!(a.1==h.1&&(a.2.1==h.2.1&&(a.q==h.q&&Z)))) (re (kb J) []) (Qa (QT.h4 l x (Γ Δ (i+1)))))))
  (re (kb Z) [])
def HA(x h:N aD.sl):=aA [Q8] zqS 100000000 (zay x h)
def P4(x h:N aD.sl):=(HA x h).isSome
def Hz(x h:N aD.sl):=o1 (HA x h)
def zkS:=FT [aD.sl,aD.sl] [Q8] λx=>HA x.1 x.2.1
theorem zfX:FK 54 zkS:=dA.T1 (f:=f54) (keep:=zoX) (e:=zsb)
abbrev zoi:=fZ [(4,[2,3,5])]
inductive QO where
 |h4 (i5:Int) (ja0:zo) (ja1:List (N (Sh.int IntKind.u8))) (jb0:zo) (jb1:List (N (Sh.int IntKind.u8)))
abbrev zrP:QO->Nat×St
 |.h4 i j h x a=>(4,⟨tm 40 [(2,ptr 0 0),(3,ptr 1 0),(5,I i)],[AO.box [O Q j,O (Sh.int IntKind.u8) h],AO.box [O Q x,O (Sh.int IntKind.u8) a]]⟩)
def zap(x h:cT):K (QO⊕ac):=
 br (cond ((M x.1:Int)!=(M h.1:Int)) Z (!aL x.2==aL h.2)) (re (kb J) [])
 (Qa (QO.h4 0 x.1 x.2 h.1 h.2))
def zqP:QO->K (QO⊕ac)
 | .h4 i j b h c=>
  let a:=j.getD i.toNat (zk Q)
  let x:=h.getD i.toNat (zk Q)
  br (L (i<(M j:Int)))
  (Qd (zT i (M j)) (Qd (zT i (M h)) (br (!(a.1==x.1&&(a.2.1==x.2.1&&(a.q==x.q&&Z)))) (re (kb J) []) (Qa (QO.h4 (Γ Δ (i+1)) j b h c)))))
  (re (kb Z) [])
def Cp(x h:cT):=aA [Q8] zqP 100000000 (zap x h)
def KS(x h:cT):=(Cp x h).isSome
def yQ(x h:cT):=o1 (Cp x h)
def zj7:=FT [eF,eF] [Q8] λx=>Cp x.1 x.2.1
theorem ze9:FK 25 zj7:=dA.T1 (f:=f25) (keep:=zoi) (e:=zrP)
abbrev zoe:=fZ [(4,[2,3,5])]
inductive QL where
 |h4 (i5:Int) (z0:zn [CP.d ao]) (z1:zn [CP.d ao])
abbrev zrM:QL->Nat×St
 |.h4 i z h=>(4,⟨tm 67 [(2,ptr 0 0),(3,ptr 1 0),(5,I i)],[AO.box (fD [] [CP.d ao] z),AO.box (fD [] [CP.d ao] h)]⟩)
def zal(x h:an):K (QL⊕ac):=
 let a:=!x.1==h.1
 let b:=!x.2.1==h.2.1
 let c:=!x.q.1==h.q.1
 let d:=x.u !=h.u
 let e:=(x.r.1.1,x.r.1.2.1,x.r.1.q.1,x.r.1.r.1,x.r.1.t.1,zP x.r.1.u)
 let g:=(h.r.1.1,h.r.1.2.1,h.r.1.q.1,h.r.1.r.1,h.r.1.t.1,zP h.r.1.u)
 Qd (cond a Z (cond b Z (cond c Z (cond d Z (yP e g)))))
 (br
  (bif a then Z
  else bif b then Z else bif c then Z else bif d then Z else bif !pH e g then Z else(M x.t.1:Int)!=(M h.t.1:Int))
  (re (kb J) []) (Qa (QL.h4 0 (x,()) (h,()))))
def zqN:QL->K (QL⊕ac)
 | .h4 i z h=>
  let a:=(M z.1.t.1:Int)
  br (L (i<a))
  (Qd (zT i (M z.1.t.1)) (Qd (zT i (M h.1.t.1)) (br (List.getD z.1.t.1 i.toNat (zk zi)!=List.getD h.1.t.1 i.toNat (zk zi)) (re (kb J) []) (Qa (QL.h4 (Γ Δ (i+1)) z h)))))
  (re (kb Z) [])
def Co(x h:an):=aA [Q8] zqN 100000000 (zal x h)
def KR(x h:an):=(Co x h).isSome
def tZ(x h:an):=o1 (Co x h)
def zj1:=FT [ao,ao] [Q8] λx=>Co x.1 x.2.1
theorem ze3:FK 23 zj1:=dA.T1 (f:=f23) (keep:=zoe) (e:=zrM)
abbrev zog:=fZ [(4,[0,1,5])]
inductive QN where
 |h4 (l0:zH) (l1:zH) (i5:Int)
abbrev zrN:QN->Nat×St
 |.h4 l h i=>(4,⟨tm 27 [(0,O zl l),(1,O zl h),(5,I i)],[]⟩)
def zan(x h:N zl.sl):K (QN⊕ac):=
 br ((M x:Int)!=(M h:Int)) (re (kb J) []) (Qa (QN.h4 x h 0))
def X9:QN->K (QN⊕ac)
 | .h4 l x i=>
  let a:=l.getD i.toNat (zk zl)
  let b:=((a.1.1,a.1.2.1,a.1.q.1,a.1.r.1,a.1.t.1,zP a.1.u),a.2)
  let h:=x.getD i.toNat (zk zl)
  let c:=((h.1.1,h.1.2.1,h.1.q.1,h.1.r.1,h.1.t.1,zP h.1.u),h.2)
  br (L (i<(M l:Int)))
  (Qd (zT i (M l)) (Qd (zT i (M x)) (Qd (P2 b c) (br (!Hq b c) (re (kb J) []) (Qa (QN.h4 l x (Γ Δ (i+1))))))))
  (re (kb Z) [])
def Hy(x h:N zl.sl):=aA [Q8] X9 100000000 (zan x h)
def Hx(x h:N zl.sl):=(Hy x h).isSome
def lU(x h:N zl.sl):=o1 (Hy x h)
def zj4:=FT [zl.sl,zl.sl] [Q8] λx=>Hy x.1 x.2.1
theorem ze6:FK 24 zj4:=dA.T1 (f:=f24) (keep:=zog) (e:=zrN)
def zdd:=Vh.addL [(122,zcb),(123,Od),(121,zca),(34,zkw),(109,zk3),(108,zk0),(77,zbK),(54,zkS),(25,zj7),(23,zj1),(24,zj4)]
theorem mq:zm zdd:=dA.addL<|fc Y8<|fc Oj<|fc Y7<|fc zfB<|fc zf8<|fc zf5<|fc YI<|fc zfX<|fc ze9<|fc ze3<|fc ze6<|ip
abbrev zhE:=fZ [(4,[1,3])]
inductive DP where
 |h4 (i3:Int) (ja0:zo) (ja1:List (N (Sh.int IntKind.u8)))
abbrev zmV:DP->Nat×St
 |.h4 i j h=>(4,⟨tm 33 [(1,ptr 0 0),(3,I i)],[AO.box [O Q j,O (Sh.int IntKind.u8) h]]⟩)
def J4(x:cT):K (DP⊕ac):=
 Qd (Yf x.1&&bif !zbs x.1 then Z else Ye (M x.1:Int))
 (br (cond (!zbs x.1) Z ((M x.2:Int)!=ziV (M x.1:Int))) (re (I 1) [])
  (Qa (DP.h4 (M x.1:Int) x.1 x.2)))
def CS:DP->K (DP⊕ac)
 | .h4 i h j=>
  let a:=Γ Δ (8*(M j:Int))
  br (L (i<a))
  (Qd (FH j i) (br (qV j i) (re (I 1) []) (Qa (DP.h4 (Γ Δ (i+1)) h j))))
  (re (I 0) [])
def Qp(x:cT):=aA [zi] CS 100000000 (J4 x)
def FI(x:cT):=(Qp x).isSome
def nU(x:cT):=o1 (Qp x)
def Oc:=FT [eF] [zi] λx=>Qp x.1
theorem Oe:FK 75 Oc:=mq.T1 (f:=f75) (keep:=zhE) (e:=zmV)
abbrev zov:=fZ [(2,[0,6,7,8]),(10,[0,5])]
inductive ID where
 |h2 (l0:List (N (Sh.str.pr (Sh.str.pr Q8)))) (l6:List (N (Sh.str.pr (Sh.str.pr Q8)))) (i7:Int) (i8:Int)
 |h10 (l0:List (N (Sh.str.pr (Sh.str.pr Q8)))) (i5:Int)
abbrev zrY:ID->Nat×St
 |.h2 l a h x=>(2,⟨tm 48 [(0,O (Sh.str.pr (Sh.str.pr Q8)) l),(6,O (Sh.str.pr (Sh.str.pr Q8)) a),(7,I h),(8,I x)],[]⟩)
 |.h10 l i=>(10,⟨tm 48 [(0,O (Sh.str.pr (Sh.str.pr Q8)) l),(5,I i)],[]⟩)
def ztv(x:N aD.sl):K (ID⊕ac):=
 Qa (ID.h2 x x (M x:Int) 0)
def uv:ID->K (ID⊕ac)
 | .h2 l b d x=>
  let a:=b.getD x.toNat (zk (Sh.str.pr (Sh.str.pr Q8)))
  let h:=!Fa a.1
  br (L (x<d))
  (Qd (zT x (M b)) (Qd (BA a.1&&bif h then Z else BA a.2.1) (br (cond h Z (cond (!Fa a.2.1) Z (a.1==[97,100,109,105,110]))) (re (I 1) []) (Qa (ID.h2 l b d (Γ Δ (x+1)))))))
  (br (L ((M l:Int)>60)) (re (I 13) []) (Qa (ID.h10 l 1)))
 | .h10 l i=>
  let a:=Γ Δ (i-1)
  let h:=l.getD a.toNat (zk (Sh.str.pr (Sh.str.pr Q8)))
  let c:=l.getD i.toNat (zk (Sh.str.pr (Sh.str.pr Q8)))
  let e:=znb h c
  br (L (i<(M l:Int)))
  (Qd (zT a (M l)) (Qd (zT i (M l)) (Qd (VK h c) (br (L (e>=0)) (re (I 15) []) (Qa (ID.h10 l (Γ Δ (i+1))))))))
  (re (I 0) [])
def JX(x:N aD.sl):=aA [zi] uv 100000000 (ztv x)
def O9(x:N aD.sl):=(JX x).isSome
def zna(x:N aD.sl):=o1 (JX x)
def zkj:=FT [aD.sl] [zi] λx=>JX x.1
theorem zfl:FK 72 zkj:=mq.T1 (f:=f72) (keep:=zov) (e:=zrY)
def znH(x h:iD):K (Empty⊕ac):=
 let a:=lU x.1 h.1
 Qd (Hx x.1 h.1&&bif a then P4 x.2 h.2 else Z) (re (AV.bool (cond a (Hz x.2 h.2) J)) [])
def Cr(x h:iD):=aA [Q8] t0 100000000 (znH x h)
def Cq(x h:iD):=(Cr x h).isSome
def Hs(x h:iD):=o1 (Cr x h)
def zjX:=FT [eG,eG] [Q8] λx=>Cr x.1 x.2.1
theorem zeX:FK 21 zjX:=mq.T1 (f:=f21) (keep:=k0) (e:=e0)
abbrev zn3:Nat->aR:=λj=>if j=3 then{slots:=[0,3,4],prom:=[(3,Q2,aD)]}else{ }
inductive QI where
 |h3 (l0:List (N (Sh.str.pr (Sh.str.pr Q8)))) (i4:Int) (lh_0:List (N (Sh.str.pr (Sh.str.pr Q8))))
abbrev zrH:QI->Nat×St
 |.h3 h i l=>(3,⟨tm 37 [(0,O (Sh.str.pr (Sh.str.pr Q8)) h),(3,AV.vec 0),(4,I i)],[AO.vec (Sh.str.pr (Sh.str.pr Q8)) l]⟩)
def ztl(x:N aD.sl):K (QI⊕ac):=
 Qa (QI.h3 x 0 [])
def S7:QI->K (QI⊕ac)
 | .h3 h i l=>
  let a:=h.getD i.toNat (zk (Sh.str.pr (Sh.str.pr Q8)))
  let x:=[(pl a.1,pl a.2.1,a.q)]
  br (cond (L (i<(M h:Int))) (L (i<61)) J)
  (Qd (zT i (M h)) (Qd (yC a.1) (Qd (zT i (M h)) (Qd (yC a.2.1) (Qd (zT i (M h)) (Qd (L (M l+M x<=1073741824)) (Qa (QI.h3 h (Γ Δ (i+1)) (l++x)))))))))
  (re (AV.vec 0) [AO.vec (Sh.str.pr (Sh.str.pr Q8)) l])
def BN(x:N aD.sl):=aA [aD.sl] S7 100000000 (ztl x)
def M8(x:N aD.sl):=(BN x).isSome
def Wr(x:N aD.sl):=o1 (BN x)
def zjN:=FT [aD.sl] [aD.sl] λx=>BN x.1
theorem zeK:FK 11 zjN:=mq.T1 (f:=f11) (keep:=zn3) (e:=zrH)
def mr:=zdd.addL [(75,Oc),(72,zkj),(21,zjX),(11,zjN)]
theorem RY:zm mr:=mq.addL<|fc Oe<|fc zfl<|fc zeX<|fc zeK<|ip
end
end Cad
namespace Go.Proofs
open Cad (aB bx cE cM dR jg kG w6 zK zU)
open Go.RowKit Go.Shelf
open Bool renaming false->Q5,true->Q4
open Option renaming none->Q2,some->Q1
open Decidable renaming decide->Q0
open List (length)
attribute [local go_sem] Oper.semAt_some
abbrev R3:={l:List Value//l.length=3/\∀v∈l,v.oneCell'=Q4}
def encY(x:R3×Bool):Array Value:=#[.agg x.1.1.toArray,.bool x.2]
theorem grown_of_below{w w':World}(h:RowKit.Below w.heap.size w w'):w.grownBy w' Q2:=⟨h.os,h.tape,h.output,h.size,λi hi _=>h.block i hi⟩
theorem yield_ends{A B:Prop}{e:Ending}(h:(e=.returned (.bool Q4)/\A)\/(e=.returned (.bool Q5)/\B)):∃cnt,e=.returned (.bool cnt)/\((cnt=Q4/\A)\/(cnt=Q5/\B)):=by
 rcases h with⟨h,h2⟩|⟨h,h2⟩
 .exact⟨Q4,h,.inl ⟨rfl,h2⟩⟩
 .exact⟨Q5,h,.inr ⟨rfl,h2⟩⟩
def KpB(n₀ Bs:Nat)(A B:World):Prop:=Below n₀ A B/\B.heap[Bs]?=A.heap[Bs]?
theorem KpB.refl(n₀ Bs:Nat)(A:World):KpB n₀ Bs A A:=⟨Below.refl _ _,rfl⟩
variable {n₀ Bs:Nat}{A B:World}
theorem KpB.trans{C:World}(h:KpB n₀ Bs A B)(k:KpB n₀ Bs B C):KpB n₀ Bs A C:=⟨h.1.trans k.1,k.2.trans h.2⟩
theorem KpB.of(h:Below A.heap.size A B)(hn:n₀<=A.heap.size)(hB:Bs<A.heap.size):KpB n₀ Bs A B:=⟨h.mono hn,h.block Bs hB⟩
theorem KpB.box{i:Nat}(h:KpB n₀ Bs A B):B.cell? ⟨Bs,i,Q2⟩=A.cell? ⟨Bs,i,Q2⟩:=by unfold World.cell?;rw[h.2]
set_option maxRecDepth 100000 in
set_option maxHeartbeats 2000000 in
theorem Tryz.each1_in(n:Nat)(hn:1<=n)(l Bs n₀ b off cap:Nat)(p:Option Addr)(bits:Value)(zs:List (R3×Bool))(hreach:zs.length<=1000)(hb:0<zs.length->b<n₀)(hp:0<zs.length->p=Q1 ⟨b,off,Q2⟩)(J Jx:List (R3×Bool)->World->Prop)(W:World)(hn₀:n₀<=W.heap.size)(hBn:Bs<W.heap.size)(hJ:AbidesFrom W.heap.size J)
  (hbit:∀W',KpB n₀ Bs W W'->∀k(hk:k<zs.length),Calls Tryz.prog 123 #[bits,.int .i64 k] W' λe W2=>e=.returned (.bool zs[k].2)/\Below W'.heap.size W' W2)
  (hY:∀pre x W,J pre W->pre.length<zs.length->YieldAt Fence.wide (n-1) Tryz.prog l (encY x) W λe W'=>
   (e=.returned (.bool Q4)/\J (pre++[x]) W'/\KpB n₀ Bs W W')\/(e=.returned (.bool Q5)/\Jx (pre++[x]) W'))
  (hBs:W.cell? ⟨Bs,0,Q2⟩=Q1 (.slice p zs.length cap)) (hBb:W.cell? ⟨Bs,1,Q2⟩=Q1 bits) (hc:∀i(hi:i<zs.length),∀j v,zs[i].1.1[j]?=Q1 v->W.cell? ⟨b,off+i*3+j,Q2⟩=Q1 v) (h0:J [] W):
  CallsIn Fence.wide n Tryz.prog 139 #[.func (.yield l) #[] #[],.pointer (Q1 ⟨Bs,0,Q2⟩)] W λe W'=>(∃v,e=.returned v)/\
   ((∃ys,ys=zs/\J ys W')\/(∃pre,(∃k,k<=zs.length/\pre=zs.take k)/\Jx pre W')):=by
 refine callsIn_of_wp Tryz.func139 rfl trivial ?_ rfl;simp only[Tryz.ntmps139,List.size_toArray,bx,cE,Nat.reduceAdd,Nat.reduceSub,Array.replicate_succ,Array.replicate_zero,List.push_toArray,List.append_toArray,dR,List.cons_append]
 gi_wp2
 gi_loopw [8] (λi wr=>∃k:Nat,k<=zs.length/\i=.int .i64 k/\J (zs.take k) wr/\KpB n₀ Bs W wr)
  (λi _=>zs.length-(intOf i).toNat)
 case atStart=>exact⟨0,zU _,rfl,h0,KpB.refl _ _ _⟩
 case round=>
  obtain⟨k,hk,rfl,hJs,hnx⟩:=hrel;by_cases hlt:k<zs.length
  .have hb:=hb (by omega);have hp:=hp (by omega);subst hp;have hcx:∀j v,zs[k].1.1[j]?=Q1 v->wr.cell? ⟨b,off+k*3+j,Q2⟩=Q1 v:=λj v h=>(hnx.1.cell (p:=⟨b,off+k*3+j,Q2⟩) hb).trans (hc k hlt j v h)
   have hYx:=λW' h=>hY (zs.take k) zs[k] W' h (by rw[kG];omega)
   have hbk:=λW' h=>hbit W' h k hlt
   have htk:zs.take k++[zs[k]]=zs.take (k+1):=List.take_append_getElem hlt;rw[htk]at hYx;generalize hx:zs[k]=x at hYx hcx hbk;obtain⟨⟨xs,hxl,hx1⟩,dn⟩:=x
   match xs,hxl with
   |[v0,v1,v2],_=>
   have c0:=hcx 0 v0 rfl;have c1:=hcx 1 v1 rfl;have c2:=hcx 2 v2 rfl;rw[w6]at c0;have d0:=run_store_one v0 (hx1 v0 (by simp));have d1:=run_store_one v1 (hx1 v1 (by simp));have d2:=run_store_one v2 (hx1 v2 (by simp));have hBr:Bs<wr.heap.size:=cM hBn hnx.1.size;have hba:KpB n₀ Bs wr (wr.alloc (.cells #[v0,v1,v2] 42)):=KpB.of ((Below.refl _ _).alloc (zK _) _) (aB hn₀ hnx.1.size) hBr;have cB:(wr.alloc (.cells #[v0,v1,v2] 42)).cell? ⟨Bs,1,Q2⟩=Q1 bits:=((hnx.trans hba).box).trans hBb;have hJa:J (zs.take k) (wr.alloc (.cells #[v0,v1,v2] 42)):=hJ _ _ _ Q2 hJs (World.grownBy_alloc _ _ _) (λr e=>by cases e)
   gi_wp2
   have hs1:wr.heap.size<(wr.alloc (.cells #[v0,v1,v2] 42)).heap.size:=by simp
   have u0:(wr.alloc (.cells #[v0,v1,v2] 42)).cell? ⟨wr.heap.size,0,Q2⟩=Q1 v0:=by unfold World.cell?;rw[World.alloc_heap_new];rfl
   have u1:(wr.alloc (.cells #[v0,v1,v2] 42)).cell? ⟨wr.heap.size,1,Q2⟩=Q1 v1:=by unfold World.cell?;rw[World.alloc_heap_new];rfl
   have u2:(wr.alloc (.cells #[v0,v1,v2] 42)).cell? ⟨wr.heap.size,2,Q2⟩=Q1 v2:=by unfold World.cell?;rw[World.alloc_heap_new];rfl
   have hB1:=hnx.trans hba;have hsz:=hB1.1.size;have hBs1:Bs<(wr.alloc (.cells #[v0,v1,v2] 42)).heap.size:=by simp;omega
   generalize wr.alloc (.cells #[v0,v1,v2] 42)=W1 at hJa cB hs1 u0 u1 u2 hB1 hsz hBs1|-;have hB2:=hB1.trans (KpB.of (n₀:=n₀) (Bs:=Bs) (Below.refl _ W1).drew (aB hn₀ hsz) hBs1)
   gi_region_with (first
    |(refine⟨trivial,?_⟩;refine(callsIn_wide.2 (hbk _ hB2)).mono ?_;rintro e W2 ⟨rfl,hb2⟩;have hJb:=hJ _ _ _ Q2 (hJ _ _ _ Q2 hJa (grown_of_below (Below.refl _ W1).drew) (λr e=>by cases e)) (grown_of_below hb2) (λr e=>by cases e);have x0:=(hb2.cell (p:=⟨wr.heap.size,0,Q2⟩) hs1).trans u0;have x1:=(hb2.cell (p:=⟨wr.heap.size,1,Q2⟩) hs1).trans u1;have x2:=(hb2.cell (p:=⟨wr.heap.size,2,Q2⟩) hs1).trans u2;obtain⟨fn,tmps,assign,body,hy,hR⟩:=hYx _ hJb;dsimp only[encY]at hy hR)
    |(refine hR.mono ?_;rintro e W3 hp;obtain⟨cnt,rfl,hq⟩:=yield_ends hp))
   all_goals
    rcases hq with⟨rfl,hJ3,hk3⟩|⟨rfl,hJx3⟩
    .gi_wp2
     go_roundw
     case rel=>exact⟨k+1,by omega,by simp,hJ3,(hB2.trans (KpB.of hb2 (aB hn₀ hsz) hBs1)).trans hk3⟩
     case measure=>simp[intOf];omega
    .gi_wp2
     refine bodyPost_ret (results_none rfl _ _ _) rfl ?_;exact⟨⟨_,rfl⟩,.inr ⟨_,⟨k+1,by omega,rfl⟩,hJx3⟩⟩
  .obtain rfl:k=zs.length:=by omega
   gi_wp2
   go_end0
   exact⟨⟨_,rfl⟩,.inl ⟨_,rfl,by rwa [jg]at hJs⟩⟩
theorem Tryz.each_stops(n:Nat)(hn:1<=n)(Bs n₀ b off cap:Nat)(p:Option Addr)(bits:Value)(zs:List (R3×Bool))(hreach:zs.length<=1000)(hb:0<zs.length->b<n₀)(hp:0<zs.length->p=Q1 ⟨b,off,Q2⟩)(w:World)(hn₀:n₀<=w.heap.size)(hBn:Bs<w.heap.size)
  (hbit:∀W',KpB n₀ Bs w W'->∀k(hk:k<zs.length),Calls Tryz.prog 123 #[bits,.int .i64 k] W' λe W2=>e=.returned (.bool zs[k].2)/\Below W'.heap.size W' W2)
  (hBs:w.cell? ⟨Bs,0,Q2⟩=Q1 (.slice p zs.length cap)) (hBb:w.cell? ⟨Bs,1,Q2⟩=Q1 bits) (hc:∀i(hi:i<zs.length),∀j v,zs[i].1.1[j]?=Q1 v->w.cell? ⟨b,off+i*3+j,Q2⟩=Q1 v):
  SeqStopsK Fence.wide n Tryz.prog 139 #[.pointer (Q1 ⟨Bs,0,Q2⟩)] encY (KpB n₀ Bs) (λys=>ys=zs) (λpre=>pre<+:zs) zs.length w:=λl J Jx W hW hJ _ hY h0=>by
 have hk:KpB n₀ Bs w W:=KpB.of hW hn₀ hBn;refine(Tryz.each1_in n hn l Bs n₀ b off cap p bits zs hreach hb hp J Jx W (aB hn₀ hW.size) (cM hBn hW.size) hJ (λW' h=>hbit W' (hk.trans h)) hY (hk.box.trans hBs) (hk.box.trans hBb) (λi hi j v h=>(hW.cell (p:=⟨b,off+i*3+j,Q2⟩) (cM (hb (by omega)) hn₀)).trans (hc i hi j v h)) h0).mono ?_;rintro e W' ⟨he,⟨ys,hy,hj⟩|⟨pre,⟨k,hk,rfl⟩,hj⟩⟩
 .exact⟨he,.inl ⟨ys,hy,hj⟩⟩
 .exact⟨he,.inr ⟨_,List.take_prefix _ _,hj⟩⟩
theorem Tryz.each_in(n:Nat)(us bits:Value)(w:World)(h1:us.oneCell'=Q4)(h2:bits.oneCell'=Q4):
  CallsIn Fence.wide n Tryz.prog 89 #[.agg #[us,bits]] w λe w'=>e=.returned (.func (.func 139) #[] #[.pointer (Q1 ⟨w.heap.size,0,Q2⟩)])/\w'=w.alloc (.cells #[us,bits] 53):=by
 refine callsIn_of_wp Tryz.func89 rfl trivial ?_ rfl;simp only[Tryz.ntmps89,List.size_toArray,bx,cE,Nat.reduceAdd,Nat.reduceSub,Array.replicate_succ,Array.replicate_zero,List.push_toArray,List.append_toArray,dR,List.cons_append];have d0:=run_store_one us h1;have d1:=run_store_one bits h2
 gi_wp2
 first|go_ret|go_ret2
 exact⟨rfl,rfl⟩
end Go.Proofs
namespace Cad
open Go Go.Proofs Tryz
open List renaming length->Io
open IntKind renaming wrap->Γ,i64->Δ
open Tr renaming chk->Qd,«to»->Qa
open Sh renaming bool->Q8,str->Q7
open Bool renaming false->Q5,true->Z
open Option renaming none->Q2,some->Y
open Decidable renaming decide->Q0
set_option maxHeartbeats 4000000
set_option maxRecDepth 100000
open Tr (chk br re)
open AV (nils agg tup ptr kb str sl)
variable {w:World}{U:Nat->Prop}{h:Nat->Option Value}{v:Value}
theorem I8(g:lR mr.gl w U)(k:∀b,U b->b<w.heap.size){t:cT}(o:Rv w U h (zI eF t) v)(a:FI t=Z):
  Calls prog 75 #[v] w λe l=>e=.returned (.int .i64 (nU t))/\RowKit.Below w.heap.size w l:=by
 have n:((Oc [zI eF t] (λ_=>.dead) 0)).val=Y {val:=.int .i64 (nU t)}:=by
  have e:Oc [zI eF t] (λ_=>.dead) 0=Qd (FI t) (.ok {val:=.int .i64 (nU t)}):=by kernel_rfl
  rw[e,a];rfl
 have i:cu w U h [zI eF t] [v]:=⟨rfl,λj c v a d=>by
  cases j with
  |zero=>simp at a d;subst a;subst d;exact o
  |succ j=>simp at a⟩
 refine(Oe.calls w U h (λ_=>.dead) 0 _ [v] _ [] n i k g ⟨sw,sw⟩ (by have e:AV.idsL [zI eF t]=[]:=rfl;rw[e];simp) sw sw).1.mono ?_;rintro e l ⟨v,p,q,rfl,x⟩;have d:=x.val;cases d;exact⟨rfl,⟨x.ext.os,x.ext.tape,x.ext.out,x.ext.sz,λb m=>x.same b m sw⟩⟩
theorem IZ(k:lR mr.gl w U)(m:∀b,U b->b<w.heap.size){d:List Int}{i:Int}(q:-9223372036854775808<=i/\i<=9223372036854775807)(s:Rv w U h (.sl (.int .u8) d) v)(a:FH d i=Z):
  Calls prog 123 #[v,.int .i64 i] w λe n=>e=.returned (.bool (qV d i))/\RowKit.Below w.heap.size w n:=by
 have p:((Od [.sl (.int .u8) d,.int .i64 i] (λ_=>.dead) 0)).val=Y {val:=.bool (qV d i)}:=by
  have e:Od [.sl (.int .u8) d,.int .i64 i] (λ_=>.dead) 0=Qd (FH d i) (.ok {val:=.bool (qV d i)}):=by kernel_rfl
  rw[e,a];rfl
 have l:cu w U h [.sl (.int .u8) d,.int .i64 i] [v,.int .i64 i]:=⟨rfl,λj c v a g=>by
  match j,a,g with
  |0,a,g=>simp at a g;subst a;subst g;exact s
  |1,a,g=>simp at a g;subst a;subst g;exact .int _ _ q
  |j+2,a,_=>simp at a⟩
 refine(Oj.calls w U h (λ_=>.dead) 0 _ [v,.int .i64 i] _ [] p l m k ⟨sw,sw⟩ (by simp[AV.idsL,AV.ids]) sw sw).1.mono ?_;rintro e n ⟨v,t,u,rfl,x⟩;have g:=x.val;cases g;exact⟨rfl,⟨x.ext.os,x.ext.tape,x.ext.out,x.ext.sz,λb o=>x.same b o sw⟩⟩
end Cad
namespace Go.Proofs
open Cad (bx cE cM dR dq zK)
open Go.RowKit Go.Shelf
open Bool renaming false->Q5,true->Q4
open Option renaming none->Q2,some->Q1
open Decidable renaming decide->Q0
open List (length)
attribute [local go_sem] Oper.semAt_some
theorem Tryz.info42:(Tryz.prog.info? 42).map (λi=>(i.zero,i.size,i.bytes))=Q1 (Q1 (.agg #[.int .i64 0,.int .i64 0,.string ⟨#[]⟩]),3,32):=by kernel_rfl
def undone(l:List (R3×Bool)):List (R3×Bool):=l.filter λx=>!x.2
def flatU(l:List (R3×Bool)):List Value:=(undone l).flatMap λx=>x.1.1
theorem undone_snoc(l:List (R3×Bool))(x:R3×Bool):undone (l++[x])=undone l++(ite x.2 [] [x]):=by unfold undone;rw[List.filter_append];cases h:x.2<;>simp[h]
theorem undone_len(l:List (R3×Bool)):(undone l).length<=l.length:=List.length_filter_le _ _
set_option maxRecDepth 100000 in
set_option maxHeartbeats 2000000 in
theorem Tryz.pending_in(bits:Value)(p:Option Addr)(b off cap:Nat)(zs:List (R3×Bool))(hreach:zs.length<=1000)(w:World)(hb2:bits.oneCell'=Q4)(hb:0<zs.length->b<w.heap.size)(hp:0<zs.length->p=Q1 ⟨b,off,Q2⟩)
  (hchk:∀W',Below w.heap.size w W'->Calls Tryz.prog 75 #[.agg #[.slice p zs.length cap,bits]] W' λe W2=>e=.returned (.int .i64 0)/\Below W'.heap.size W' W2)
  (hbit:∀W',Below w.heap.size w W'->∀k(hk:k<zs.length),Calls Tryz.prog 123 #[bits,.int .i64 k] W' λe W2=>e=.returned (.bool zs[k].2)/\Below W'.heap.size W' W2)
  (hc:∀i(hi:i<zs.length),∀j v,zs[i].1.1[j]?=Q1 v->w.cell? ⟨b,off+i*3+j,Q2⟩=Q1 v):
  CallsIn Fence.wide 4 Tryz.prog 78 #[.agg #[.slice p zs.length cap,bits]] w λe W'=>∃v,e=.returned v/\W'.ownsRow w.heap.size 42 3 v (undone zs).length (flatU zs)/\Below w.heap.size w W':=by
 obtain⟨i0,hi,hz0,hz1,hz2⟩:=info_parts Tryz.info42;refine callsIn_of_wp_marks Tryz.func78 rfl trivial ?_ rfl;simp only[Tryz.ntmps78,List.size_toArray,bx,cE,Nat.reduceAdd,Nat.reduceSub,Array.replicate_succ,Array.replicate_zero,List.push_toArray,List.append_toArray,dR,List.cons_append];have hB0:Below w.heap.size w (w.alloc (.cells #[.slice p zs.length cap,bits] 53)):=(Below.refl _ w).alloc (zK _) _;have d1:=run_store_one bits hb2
 gi_wp2_with (first
  |(refine⟨trivial,?_⟩;refine(callsIn_wide.2 (hchk _ hB0)).mono ?_;rintro e W1 ⟨rfl,hW1⟩;have hs1:w.heap.size<W1.heap.size:=cM (by simp) hW1.size;have cT0:W1.cell? ⟨w.heap.size,0,Q2⟩=Q1 (.slice p zs.length cap):=(hW1.cell (p:=⟨w.heap.size,0,Q2⟩) (by simp)).trans (by unfold World.cell?;rw[World.alloc_heap_new];rfl);have cT1:W1.cell? ⟨w.heap.size,1,Q2⟩=Q1 bits:=(hW1.cell (p:=⟨w.heap.size,1,Q2⟩) (by simp)).trans (by unfold World.cell?;rw[World.alloc_heap_new];rfl))
  |(refine⟨trivial,?_⟩;refine(Tryz.each_in 3 _ bits _ rfl hb2).mono ?_;rintro e W3 ⟨rfl,rfl⟩))
 have hsz1:w.heap.size<=W1.heap.size:=Nat.le_of_lt hs1;have hW:Below w.heap.size w W1:=hB0.trans (hW1.mono (by simp));have bO:=Boxed.new W1 50 (.slice Q2 0 0);have hB2:Below W1.heap.size W1 ((W1.alloc (.cells #[.slice Q2 0 0] 50)).alloc (.cells #[.slice p zs.length cap,bits] 53)):=((Below.refl _ W1).alloc (zK _) _).alloc (by simp) _;have hBs0:((W1.alloc (.cells #[.slice Q2 0 0] 50)).alloc (.cells #[.slice p zs.length cap,bits] 53)).heap[W1.heap.size+1]?=Q1 (.cells #[.slice p zs.length cap,bits] 53 (0,0)):=by
  have:=World.alloc_heap_new (W1.alloc (.cells #[.slice Q2 0 0] 50)) (.cells #[.slice p zs.length cap,bits] 53)
  rwa [World.size_alloc]at this
 have hbx:=bO.alloc (.cells #[.slice p zs.length cap,bits] 53);have hsz3:((W1.alloc (.cells #[.slice Q2 0 0] 50)).alloc (.cells #[.slice p zs.length cap,bits] 53)).heap.size=W1.heap.size+2:=by simp
 generalize(W1.alloc (.cells #[.slice Q2 0 0] 50)).alloc (.cells #[.slice p zs.length cap,bits] 53)=W3 at hB2 hBs0 hbx hsz3|-;have hW3:Below w.heap.size w W3:=hW.trans (hB2.mono hsz1);generalize hL:W1.heap.size=L at*
 refine wpIn_rangeFunc_ownH rfl (by omega) (gf:=139) (lb:=#[.pointer (Q1 ⟨L+1,0,Q2⟩)]) rfl trivial (enters_of Tryz.func139 (by kernel_rfl) rfl)
  (Tryz.each_stops 3 (by omega) (L+1) w.heap.size b off cap p bits zs hreach hb hp W3 (by omega) (by omega) (λW' h=>hbit W' (hW3.trans h.1)) (by unfold World.cell?;rw[hBs0];rfl) (by unfold World.cell?;rw[hBs0];rfl) (λi hi j v h=>(hW3.cell (p:=⟨b,off+i*3+j,Q2⟩) (hb (by omega))).trans (hc i hi j v h)))
  KpB.trans (λW l o o' hl ho h1 h2=>⟨belowK_b (w:=w) (n₀:=w.heap.size) (zK _) W l o o' (by omega) ho h1 h2,?kb⟩) (Below.refl _ _) (λ_=>rfl)
  (λpre W=>((∃v,Boxed W L 50 v/\W.ownsRow w.heap.size 42 3 v (undone pre).length (flatU pre)/\(v=.slice Q2 0 0↔undone pre=[]))/\Below w.heap.size w W)/\W.heap[L+1]?=Q1 (.cells #[.slice p zs.length cap,bits] 53 (0,0)))
  (λ_ _ _=>False)
  (OwnFrom.and (OwnFrom.and (Own.from (holdsRow_own w.heap.size L 50 42 3 (λpre=>(undone pre).length) flatU (λpre v=>v=.slice Q2 0 0↔undone pre=[])) _) (ownFrom_below (zK _) (by omega))) (Own.from (λs X Y row hs hg hr=>cells_own (L+1) _ 53 () X Y row hs hg hr) _))
  (λ_ _ _ _ _ hs _ _=>hs)
  ⟨⟨⟨_,hbx,World.ownsRow_nil _ _ _ _,by simp[undone]⟩,hW3⟩,hBs0⟩
  (λx a' W=>∃Bx,L+1<Bx/\W.heap[Bx]?=Q1 (.cells x.1.1.toArray 42 (0,0))/\a'={tmps:=#[.agg #[.slice p zs.length cap,bits],.pointer (Q1 ⟨w.heap.size,0,Q2⟩),.slice Q2 0 0,.pointer (Q1 ⟨L,0,Q2⟩),.pointer (Q1 ⟨Bx,0,Q2⟩),.bool x.2,.agg #[.slice p zs.length cap,bits],.int .i64 0,.bool Q5,.agg #[.slice p zs.length cap,bits],.func (.func 139) #[] #[.pointer (Q1 ⟨L+1,0,Q2⟩)],.agg x.1.1.toArray,.bool x.2,undef,undef,undef,undef,undef,undef,undef],defers:=[]})
  (λx a' _ X Y row hs hg hr=>by obtain⟨Bx,h1,h2,h3⟩:=hs;exact⟨Bx,h1,cells_own Bx x.1.1.toArray 42 () X Y row h2 hg (λr e=>(hr r e).2),h3⟩)
  ?assign ?body ?done ?stop
 case kb=>exact(grownBy_putObj' W l o').block _ (by have:=(dq.1 ho).1;omega) (λe=>by cases e;omega)
 case assign=>
  rintro l pre ⟨⟨xs,hxl,hx1⟩,dn⟩ W K ⟨⟨⟨v,hv,hrow,hnil⟩,hB⟩,hT⟩ hK
  match xs,hxl with
  |[v0,v1,v2],_=>
  have d0:=run_store_one v0 (hx1 v0 (by simp));have d1:=run_store_one v1 (hx1 v1 (by simp));have d2:=run_store_one v2 (hx1 v2 (by simp));have hlt:L+1<W.heap.size:=(dq.1 hT).1
  dsimp only[encY]
  gi_wp2
  exact hK _ _ ((KeepsOthers.alloc _ _).from _) (KpB.of ((Below.refl _ W).alloc (zK _) _) hB.size hlt) ⟨⟨⟨v,hv.alloc _,hrow.alloc _,hnil⟩,hB.alloc hB.size _⟩,((Below.refl _ W).alloc (zK _) _).block _ hlt▸hT⟩ ⟨W.heap.size,hlt,World.alloc_heap_new W _,rfl⟩
 case body=>
  rintro l pre ⟨⟨xs,hxl,hx1⟩,dn⟩ a' W hl ⟨r,hr⟩ ⟨⟨⟨v,hv,hrow,hnil⟩,hB⟩,hT⟩ ⟨Bx,hBx,hX,rfl⟩ hlt;cases dn with
  | true=>
   gi_wp2
   have e:undone (pre++[(⟨xs,hxl,hx1⟩,Q4)])=undone pre:=by rw[undone_snoc];simp
   refine⟨KeepsFrom.refl _ _,KpB.refl _ _ _,⟨⟨v,hv,?_,by rw[e];exact hnil⟩,hB⟩,hT⟩;unfold flatU at hrow|-;rw[e];exact hrow
  |false=>
  match xs,hxl with
  |[v0,v1,v2],_=>
  have hcv:=hv.cell
  dsimp only at hX
  have c0:W.cell? ⟨Bx,0,Q2⟩=Q1 v0:=by simp[World.cell?,hX]
  have c1:W.cell? ⟨Bx,1,Q2⟩=Q1 v1:=by simp[World.cell?,hX]
  have c2:W.cell? ⟨Bx,2,Q2⟩=Q1 v2:=by simp[World.cell?,hX]
  have hul:=undone_len pre
  gi_wp2_with (gi_at_builtin;refine wpListIn_append_own _ rfl _ _ 50 rfl w.heap.size 42 i0 _ 3 32 Tryz.underlying50 hi hz0 hz1 hz2 rfl (by decide) _ _ _ rfl (hrow.alloc _) ⟨W.heap.size,0,Q2⟩ 1 1 [v0,v1,v2] rfl rfl (cell_row_new _ _ _) hx1 (by unfold maxLen;omega) (by omega) (by have:=hB.size;simp;omega) ?_;intro v' w1 hown' hgrow _;obtain⟨g',cap',rfl⟩:=ownsRow_succ hown';obtain⟨hv1,hv2,hr2,hk2,hb2⟩:=hv.appended (by decide) hrow hB.size hsz1 hown' hgrow;have hc1:=hv1.cell;have hf1:=hv1.frozen;have hgr:=hgrow)
  have e:∀h,undone (pre++[(⟨[v0,v1,v2],h⟩,Q5)])=undone pre++[(⟨[v0,v1,v2],h⟩,Q5)]:=λh=>by rw[undone_snoc];simp
  have hlt0:L+1<W.heap.size:=(dq.1 hT).1;have hne:Q1 (L+1)≠v.ownBlock:=λe=>by
   rcases hrow.2 with⟨rfl,_⟩|⟨g,cap',cur,rfl,_,hgb,_⟩
   .cases e
   .obtain rfl:L+1=g:=by simpa[Value.ownBlock]using e
    rw[hT]at hgb;cases hgb
  have t1:w1.heap[L+1]?=Q1 (.cells #[.slice p zs.length cap,bits] 53 (0,0)):=
   (hgr.block _ (by simp;omega) (λe=>hne e)).trans ((((Below.refl _ W).alloc (zK _) _).block _ hlt0).trans hT)
  have t2:∀u,(w1.setCell ⟨L,0,Q2⟩ u).heap[L+1]?=Q1 (.cells #[.slice p zs.length cap,bits] 53 (0,0)):=λu=>
   ((grownBy_setCell' w1 L u).block _ (dq.1 t1).1 (λe=>by simp at e)).trans t1
  refine⟨hk2.from _,⟨hb2,(t2 _).trans hT.symm⟩,⟨⟨_,hv2,?_,?_⟩,hB.trans hb2⟩,t2 _⟩
  .unfold flatU at hr2|-;rw[e];simpa using hr2
  .rw[e];simp
 case done=>
  rintro D ys W hD rfl ⟨⟨⟨v,hv,hrow,hnil⟩,hB⟩,hT⟩ hK;have hc:=hv.cell
  gi_wp2
  refine⟨by simp,.inl ⟨_,_,rfl,run_takeDeferred hK,?_⟩⟩;exact⟨_,results_tmp rfl _ _ _,v,rfl,ownsRow_putObj hrow _ hK rfl,hB.trans (belowK_b (w:=w) (zK _) W D _ _ (by omega) hK rfl rfl)⟩
 case stop=>
  rintro D c pre W _ _ h _;exact h.elim
end Go.Proofs
