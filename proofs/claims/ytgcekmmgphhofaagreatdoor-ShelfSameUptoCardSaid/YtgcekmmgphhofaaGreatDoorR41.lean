/- Writers. -/
import Derived.Test.YtgcekmmgphhofaaGreatDoorR39
import Derived.Test.YtgcekmmgphhofaaGreatDoorR40
namespace Cad
open Go Go.Proofs Tryz
open List renaming length->M
open IntKind renaming wrap->Γ,i64->Δ
open AV renaming ptr->Qf
open Tr renaming chk->Qd
open AO renaming box->Qb
open Bool renaming true->Z
open Option renaming none->Q2,some->Q1,some->Y
open Decidable renaming decide->L
open Tr (chk br re)
open AV (nils agg tup ptr kb str)
open AV renaming sl->O
open Cad renaming ai->I,AV->R,Tr->K,Sem->N,ow->S
set_option maxHeartbeats 4000000
noncomputable section
def zkG:zV:=ae [zi] [.str] (λ_=>Z) λx=>(Lib.itoa x.1,())
open Go.RowKit Go.Lib in
theorem zfM:FK 47 zkG:=by
 refine cY (E:=q9) ⟨f47,kw,kw,kw⟩ λx H D a=>?_
 unfold dJ at a;split at a
 .simp only[Tr.val]at a;split at a
  .simp only[ax]at a;subst a;have⟨n,u⟩:=x;intro C w U ρ v _ d p b i l;have z:=d.len
   match v,z,d with
   | [F],_,d=>
    have m:=d.rv 0 (I n) F rfl rfl;cases m with
    |int _ _ g=>
    have o:Rv w U (λ_=>Q2) (.tab .u64 jA) (.pointer (Q1 ⟨3,0,Q2⟩)):=l.gl 3;have c:Lib.TabIs prog w "internal/strconv.uint64pow10" .u64 Lib.pow10Tab:=by
     cases o with
     |tab _ _ _ h G q hU=>
     have s:prog.globalNamed "internal/strconv.uint64pow10"=Q1 3:=by kernel_rfl
     have A:Lib.pow10Tab=jA:=by decide+kernel
     unfold Lib.TabIs World.var?;rw[s,A];simp only[Option.bind_some,q]
    refine(Tryz.strconv_Itoa n g.1 g.2 w c).mono ?_;rintro e w' ⟨rfl,k,os,rfl⟩;exact cI (r:=.str (Lib.itoa n)) p b i l ⟨rfl,rfl,rfl,by show w.heap.size<=(w.heap++os).size;simp,λj y=>by show(w.heap++os)[j]?=w.heap[j]?;rw[Array.getElem?_append_left y]⟩ (.str _ (by rw[BH n g];have:=vY n;unfold af;omega))
  .cases a
 .simp at a
variable {l:List Int}{n:Nat}
theorem ziw{t:zD}(h:M l+n<=aI)(e:(zR t).length<=n):L (M l+(zR t).length<=1073741824)=Z:=zL (by unfold aI at h;omega)
abbrev zt9(x:zA [Y Sh.str]):R:=.tup [I (M x.1:Int),.ifc Z]
def zkE:=wF Z [.str] (λ_=>Z) (λx=>x.1) zt9
theorem zfK:FK 46 zkE:=
 Al (wP (e:=e0) (t:=t0) (n:=100000000) (keep:=zoL) (gas:=400) (i:=λx l=>ztE x.1 l) nt zp4 (λx l=>by kernel_rfl) (Dh _ _ _ _ _) λx l _ h=>by
   show b6 t0 _ (Qd (L (M l+(zR x.1).length<=1073741824)) _)=_;rw[ziw h (Nat.le_of_eq (em _))];rfl)
  (Am (e:=e0) (t:=t0) (n:=100000000) (keep:=zoM) (gas:=400) (i:=λx=>ztF x.1) nt zp5 (λx=>by kernel_rfl) (Dh _ _ _ _ _) λx _ h=>by
   show b6 t0 _ (Qd (L ((zR x.1).length<=1073741824)) _)=_;rw[zL (by rw[em];exact h)];rfl)
theorem zbw(z:Int)(h:0<=z)(x:z<=255):zR [UInt8.ofNat z.toNat]=[z]:=by simp only[zR,dc,oU,oQ,and_true];rw[UInt8.toNat_ofNat_of_lt' (by show z.toNat<256;omega)];omega
def zkJ:=wF false [.int .u8] (λx=>L (0<=x.1)&&L (x.1<=255)) (λx=>[UInt8.ofNat x.1.toNat]) λ_=>.ifc Z
theorem zfP:FK 48 zkJ:=
 wP (e:=e0) (t:=t0) (n:=100000000) (keep:=zoO) (gas:=400) (i:=λx l=>ztG x.1 l) nt zp7 (λx l=>by kernel_rfl) (Dh _ _ _ _ _) λx l a h=>by
  show b6 t0 _ (Qd (L (M l+[x.1].length<=1073741824)) _)=_;rw[zL (show M l+[x.1].length<=1073741824 from h)];simp only[ar,aT]at a;have e:zR [UInt8.ofNat x.1.toNat]=[x.1]:=zbw x.1 a.1 a.2;show _=Y ((AV.ifc Z,[Qb [Qf 0 0,AV.vec 2],AO.dead,AO.vec (.int .u8) (l++zR [UInt8.ofNat x.1.toNat])]):ac);rw[e];rfl
def OW:=A2.addL [(47,zkG),(46,zkE),(48,zkJ)]
theorem vL:zm OW:=nt.addL<|fc zfM<|fc zfK<|fc zfP ip
abbrev zn9:=fZ []
theorem zpq:zJ OW.P 16 f16 2:=bG kw
def zto(t:zD)(l:List Int):K (Empty⊕ac):=
 let a:=l++zR (Lib.itoa (M t:Int))
 let a1:=WS.on a
 let h:=a++zR [UInt8.ofNat (Int.toNat 58)]
 let a3:=WS.on h
 Qd Z
 (Qd ((Z||(WS.on l).b)&&(Z&&L ((WS.on l).l.length+(Lib.itoa (M t:Int)).length<=aI)))
  (Qd ((false||a1.b)&&(L (0<=58)&&L (58<=255)&&L (a1.l.length+[UInt8.ofNat (Int.toNat 58)].length<=aI))) (Qd ((Z||a3.b)&&(Z&&L (a3.l.length+M t<=aI))) (re (tup []) [Qb [Qf 0 0,AV.vec 2],AO.dead,AO.vec (Sh.int IntKind.u8) (h++zR t)]))))
abbrev zoa:=fZ []
theorem zpr:zJ OW.P 16 f16 2:=bG kw
def ztp(t:zD):K (Empty⊕ac):=
 let a:=zR (Lib.itoa (M t:Int))
 let a1:=WS.on a
 let h:=a++zR [UInt8.ofNat (Int.toNat 58)]
 let a3:=WS.on h
 Qd Z
 (Qd ((Z||WS.new.b)&&(Z&&L (WS.new.l.length+(Lib.itoa (M t:Int)).length<=aI)))
  (Qd ((false||a1.b)&&(L (0<=58)&&L (58<=255)&&L (a1.l.length+[UInt8.ofNat (Int.toNat 58)].length<=aI))) (Qd ((Z||a3.b)&&(Z&&L (a3.l.length+M t<=aI))) (re (tup []) [Qb [Qf 0 0,AV.vec 1],AO.vec (Sh.int IntKind.u8) (h++zR t)]))))
theorem wg{p:Prop}(h:p:=by simp[WS.b,WS.l,em];first|omega|exact zL (by omega)):p:=h
theorem ag{σ:Type}{t:σ->K (σ⊕ac)}{s:Bool}{k:K (σ⊕ac)}{r:Option ac}(x:s=Z)(h:b6 t n k=r):b6 t n (.chk s k)=r:=by subst x;exact h
theorem ek(a b:zD):zR (a++b)=zR a++zR b:=fx
theorem O8(t:zD):(dZ t).length=(Lib.itoa (M t)).length+1+M t:=by unfold dZ;simp;omega
theorem VG(t:zD):zR (dZ t)=zR (Lib.itoa (M t:Int))++zR [UInt8.ofNat (Int.toNat 58)]++zR t:=by rw[<-ek,<-ek];congr 1;unfold dZ;simp
def zjV:=wF Z [.str] (λ_=>Z) λx=>dZ x.1
theorem zeT:FK 16 zjV:=
 Al (wP (e:=e0) (t:=t0) (n:=100000000) (keep:=zn9) (gas:=400) (i:=λx l=>zto x.1 l) vL zpq (λx l=>by kernel_rfl) (Dh _ _ _ _ _) λx l _ h=>by
   have a:=O8 x.1;refine ag rfl (ag ?_ (ag ?_ (ag ?_ ?_)))
   .exact wg
   .exact wg
   .exact wg
   .show _=Y ((_,[Qb [Qf 0 0,AV.vec 2],AO.dead,AO.vec (.int .u8) (l++zR (dZ x.1))]):ac);rw[VG,<-iI,<-iI];rfl)
  (Am (e:=e0) (t:=t0) (n:=100000000) (keep:=zoa) (gas:=400) (i:=λx=>ztp x.1) vL zpr (λx=>by kernel_rfl) (Dh _ _ _ _ _) λx _ h=>by
   have a:=O8 x.1;refine ag rfl (ag ?_ (ag ?_ (ag ?_ ?_)))
   .exact wg
   .exact wg
   .exact wg
   .show _=Y ((_,[Qb [Qf 0 0,AV.vec 1],AO.vec (.int .u8) (zR (dZ x.1))]):ac);rw[VG];rfl)
def EM:=OW.add 16 zjV
theorem ms:zm EM:=vL.add zeT
abbrev zoJ:=fZ []
theorem zp2:zJ EM.P 45 f45 2:=bG kw
def ztC(t:zy)(l:List Int):K (Empty⊕ac):=
 Qd Z
 (Qd ((Z||(WS.on l).b)&&(Z&&L ((WS.on l).l.length+(dZ (Lib.itoa t)).length<=aI)))
  (re (tup []) [Qb [Qf 0 0,AV.vec 2],AO.dead,AO.vec (Sh.int IntKind.u8) (l++zR (dZ (Lib.itoa t)))]))
abbrev zoK:=fZ []
theorem zp3:zJ EM.P 45 f45 2:=bG kw
def ztD(t:zy):K (Empty⊕ac):=
 Qd Z
 (Qd ((Z||WS.new.b)&&(Z&&L (WS.new.l.length+(dZ (Lib.itoa t)).length<=aI)))
  (re (tup []) [Qb [Qf 0 0,AV.vec 1],AO.vec (Sh.int IntKind.u8) (zR (dZ (Lib.itoa t)))]))
abbrev zob:=fZ []
theorem zps:zJ EM.P 17 f17 2:=bG kw
def ztq(t:Bool)(l:List Int):K (Empty⊕ac):=
 let a:=Z||(WS.on l).b
 br t
 (Qd (a&&(Z&&L ((WS.on l).l.length+(dZ [49]).length<=aI)))
  (re (tup []) [Qb [Qf 0 0,AV.vec 2],AO.dead,AO.vec (Sh.int IntKind.u8) (l++zR (dZ [49]))]))
 (Qd (a&&(Z&&L ((WS.on l).l.length+(dZ [48]).length<=aI)))
  (re (tup []) [Qb [Qf 0 0,AV.vec 2],AO.dead,AO.vec (Sh.int IntKind.u8) (l++zR (dZ [48]))]))
abbrev zoc:=fZ []
theorem zpt:zJ EM.P 17 f17 2:=bG kw
def ztr(t:Bool):K (Empty⊕ac):=
 br t
 (Qd ((Z||WS.new.b)&&(Z&&L (WS.new.l.length+(dZ [49]).length<=aI)))
  (re (tup []) [Qb [Qf 0 0,AV.vec 1],AO.vec (Sh.int IntKind.u8) (zR (dZ [49]))]))
 (Qd ((Z||WS.new.b)&&(Z&&L (WS.new.l.length+(dZ [48]).length<=aI)))
  (re (tup []) [Qb [Qf 0 0,AV.vec 1],AO.vec (Sh.int IntKind.u8) (zR (dZ [48]))]))
def zkD:=wF Z [zi] (λ_=>Z) λx=>ft x.1
theorem zfJ:FK 45 zkD:=
 Al (wP (e:=e0) (t:=t0) (n:=100000000) (keep:=zoJ) (gas:=400) (i:=λx l=>ztC x.1 l) ms zp2 (λx l=>by kernel_rfl) (Dh _ _ _ _ _) λx l _ h=>ag rfl (ag (by unfold ft at h;exact wg) rfl))
  (Am (e:=e0) (t:=t0) (n:=100000000) (keep:=zoK) (gas:=400) (i:=λx=>ztD x.1) ms zp3 (λx=>by kernel_rfl) (Dh _ _ _ _ _) λx _ h=>ag rfl (ag (by unfold ft at h;exact wg) rfl))
def zjW:=wF Z [.bool] (λ_=>Z) λx=>Lq x.1
theorem zeU:FK 17 zjW:=
 Al (wP (e:=e0) (t:=t0) (n:=100000000) (keep:=zob) (gas:=400) (i:=λx l=>ztq x.1 l) ms zps (λx l=>by kernel_rfl) (Dh _ _ _ _ _) λx l _ h=>by
   have⟨b,u⟩:=x;cases b
   .exact ag (by unfold Lq at h;simp at h;exact wg) rfl
   .exact ag (by unfold Lq at h;simp at h;exact wg) rfl)
  (Am (e:=e0) (t:=t0) (n:=100000000) (keep:=zoc) (gas:=400) (i:=λx=>ztr x.1) ms zpt (λx=>by kernel_rfl) (Dh _ _ _ _ _) λx _ h=>by
   have⟨b,u⟩:=x;cases b
   .exact ag (by unfold Lq at h;simp at h;exact wg) rfl
   .exact ag (by unfold Lq at h;simp at h;exact wg) rfl)
def JF:=EM.addL [(45,zkD),(17,zjW)]
theorem p9:zm JF:=ms.addL<|fc zfJ<|fc zeU ip
abbrev Un(l:List Int):List AO:=[.box [.ptr 1 0],.box [.ptr 1 0,.vec 2],.vec (.int .u8) l]
abbrev zmH(l:List Int)(t:zD):ac:=(.tup [],[.box [.ptr 1 0],.box [.ptr 1 0,.vec 3],.dead,.vec (.int .u8) (l++zR t)])
def cOf:List AO->Option (List Int)
 |[.box [.ptr 1 0],.box [.ptr 1 0,.vec 2],.vec (.int .u8) l]=>Y l
 |_=>Q2
variable {b:List AO}
theorem zgG(e:cOf b=Y l):b=Un l:=by unfold cOf at e;split at e<;>first|(cases e;rfl)|cases e
def cG(s:Sh)(c:N s->Bool)(f:N s->zD):ee [Y s,Q2]:=λx h=>match x.2.1 with
 | .ptr 0 0=>match cOf h with
  |some l=>.chk (c x.1&&L (M l+(f x.1).length<=aI)) (.ok (zmH l (f x.1)))
  |none=>.err
 |_=>.err
abbrev cF(s:Sh)(c:N s->Bool)(f:N s->zD):zV:=au [Y s,Q2] (cG s c f)
abbrev Xr(l:List Int):List AO:=[.box [.ptr 0 0,.vec 2],.box [.ptr 0 0],.vec (.int .u8) l]
abbrev Nm:List AO:=[.box [.nilp,.nils],.box [.ptr 0 0]]
abbrev zqx(l:List Int)(t:zD):ac:=(.tup [],[.box [.ptr 0 0,.vec 3],.box [.ptr 0 0],.dead,.vec (.int .u8) (l++zR t)])
abbrev zdY(t:zD):ac:=(.tup [],[.box [.ptr 0 0,.vec 2],.box [.ptr 0 0],.vec (.int .u8) (zR t)])
def Hf:List AO->Option WS
 |[.box [.nilp,.nils],.box [.ptr 0 0]]=>Y .new
 |[.box [.ptr 0 0,.vec 2],.box [.ptr 0 0],.vec (.int .u8) l]=>Y (.on l)
 |_=>Q2
theorem za5(e:Hf b=Y (.on l)):b=Xr l:=by unfold Hf at e;split at e<;>first|(cases e;rfl)|cases e
theorem XF(e:Hf b=Y .new):b=Nm:=by unfold Hf at e;split at e<;>first|(cases e;rfl)|cases e
def pG(b:Bool)(e:Sh)(a:Nat)(c:List (N e)->Bool)(f:List (N e)->zD):ee [Q2,Y (.sl e),Q2]:=λx h=>match x.1,x.q.1 with
 | .ptr 0 0,.clo (.func g) [] [.ptr 1 0]=>if g=a then match Hf h with
  |some (.on l)=>.chk (c x.2.1&&L (M l+(f x.2.1).length<=aI)) (.ok (zqx l (f x.2.1)))
  |some .new=>.chk (b&&(c x.2.1&&L ((f x.2.1).length<=aI))) (.ok (zdY (f x.2.1)))
  |none=>.err
  else .err
 |_,_=>.err
def mG(e:Sh)(a:Nat)(c:List (N e)->Bool)(f:List (N e)->zD):ee [Q2,Y (.sl e),Q2]:=λx h=>match x.1,x.q.1 with
 | .ptr 0 0,.clo (.func g) [.ptr 0 0] []=>if g=a then match wOf h with
  |some (.on l)=>.chk (c x.2.1&&L (M l+(f x.2.1).length<=aI)) (.ok (N4 (.on l) (f x.2.1) (.tup [])))
  |_=>.err
  else .err
 |_,_=>.err
section
variable {P:Program} {gl:Nat->R} {σ:Type} {E:bS} {k:FuncId} {fn:Func} {e:Sh} {keep:Nat->aR} {gas n:Nat} {eσ:σ->Nat×St} {t:σ->K (σ⊕ac)}
theorem DM{c:N e->Bool}{f:N e->zD}{i:N e->List Int->K (σ⊕ac)}(m:zm E)(o:zJ E.P k fn 2)
  (b:∀x l,run E 3 keep fn.results.toList gas (aK fn) (aC fn.ntmps [zI e x,.ptr 0 0] (Un l))=(i x l).map (lf fn eσ))
  (d:∀s,run E 3 keep fn.results.toList gas (zZ fn (eσ s).1) (eσ s).2=(t s).map (lf fn eσ))
  (h:∀x l,c x=Z->M l+(f x).length<=aI->b6 t n (i x l)=Y (zmH l (f x))) (w:E.P=P:=by rfl) (v:E.gl=gl:=by rfl):ky P gl k (cF e c f):=by
 refine gC (ι:=N e×List Int) (args:=λy=>[zI e y.1,.ptr 0 0]) (heap:=λy=>Un y.2) (n0:=3) (n:=n) m (by simpa using o) (λ_=>rfl) (λy=>b y.1 y.2) d (λx A z a=>?_) w v;have⟨x,p,u⟩:=x;unfold cG at a;simp only at a;split at a
 case h_2=>simp at a
 split at a
 case h_2=>simp at a
 rename_i l q;simp only[Tr.val_chk,ar,Tr.val_ok,ax]at a;obtain⟨⟨g,j⟩,rfl⟩:=a;exact⟨(x,l),rfl,zgG q,h x l g (eB j)⟩
variable {c:List (N e)->Bool}{f:List (N e)->zD}{i:List (N e)->List Int->K (σ⊕ac)}
theorem zcp{b:Nat}(o:zm E)(v:zJ E.P k fn 3)
  (d:∀x l,run E 2 keep fn.results.toList gas (aK fn) (aC fn.ntmps [.ptr 0 0,.sl e x,.clo (.func b) [.ptr 0 0] []] (Db (.on l)))=(i x l).map (lf fn eσ))
  (g:∀s,run E 2 keep fn.results.toList gas (zZ fn (eσ s).1) (eσ s).2=(t s).map (lf fn eσ))
  (h:∀x l,c x=Z->M l+(f x).length<=aI->b6 t n (i x l)=Y (N4 (.on l) (f x) (.tup []))) (C:E.P=P:=by rfl) (A:E.gl=gl:=by rfl):ky P gl k (au [Q2,Y (.sl e),Q2] (mG e b c f)):=by
 refine gC (ι:=List (N e)×List Int) (args:=λy=>[.ptr 0 0,.sl e y.1,.clo (.func b) [.ptr 0 0] []]) (heap:=λy=>Db (.on y.2)) (n0:=2) (n:=n) o (by simpa using v) (λ_=>rfl) (λy=>d y.1 y.2) g (λx F D a=>?_) C A;have⟨p,x,q,u⟩:=x;unfold mG at a;simp only at a;split at a
 case h_2=>simp at a
 split at a
 case isFalse=>simp at a
 rename_i w;subst w;split at a
 case h_2=>simp at a
 rename_i l z;simp only[Tr.val_chk,ar,Tr.val_ok,ax]at a;obtain⟨⟨j,m⟩,rfl⟩:=a;exact⟨(x,l),rfl,N3 z,h x l j (eB m)⟩
theorem DN{s:Bool}{g:Nat}(H:zm E)(U:zJ E.P k fn 3)
  (D:∀x l,run E 3 keep fn.results.toList gas (aK fn) (aC fn.ntmps [.ptr 0 0,.sl e x,.clo (.func g) [] [.ptr 1 0]] (Xr l))=(i x l).map (lf fn eσ))
  (F:∀a,run E 3 keep fn.results.toList gas (zZ fn (eσ a).1) (eσ a).2=(t a).map (lf fn eσ))
  (h:∀x l,c x=Z->M l+(f x).length<=aI->b6 t n (i x l)=Y (zqx l (f x)))
  {σ':Type} {keep':Nat->aR} {eσ':σ'->Nat×St} {t':σ'->K (σ'⊕ac)} {i':List (N e)->K (σ'⊕ac)}
  (o:s=Z->∀x,run E 2 keep' fn.results.toList gas (aK fn) (aC fn.ntmps [.ptr 0 0,.sl e x,.clo (.func g) [] [.ptr 1 0]] Nm)=(i' x).map (lf fn eσ'))
  (v:s=Z->∀a,run E 2 keep' fn.results.toList gas (zZ fn (eσ' a).1) (eσ' a).2=(t' a).map (lf fn eσ'))
  (h':s=Z->∀x,c x=Z->(f x).length<=aI->b6 t' n (i' x)=Y (zdY (f x))) (qp:E.P=P:=by rfl) (qg:E.gl=gl:=by rfl):ky P gl k (au [Q2,Y (.sl e),Q2] (pG s e g c f)):=by
 have r0:=gC (P:=P) (gl:=gl) (G:=λx h=>match Hf h with|some (.on _)=>pG s e g c f x h|_=>.err) (kinds:=[Q2,Y (.sl e),Q2]) (ι:=List (N e)×List Int) (args:=λy=>[.ptr 0 0,.sl e y.1,.clo (.func g) [] [.ptr 1 0]]) (heap:=λy=>Xr y.2) (n0:=3) (n:=n) H (by simpa using U) (λ_=>rfl) (λy=>D y.1 y.2) F (λx w m b=>by
  have⟨p,x,q,u⟩:=x;split at b
  case h_2=>simp at b
  rename_i l d;unfold pG at b;simp only at b;split at b
  case h_2=>simp at b
  split at b
  case isFalse=>simp at b
  rename_i C;subst C;rw[d]at b;simp only[Tr.val_chk,ar,Tr.val_ok,ax]at b;obtain⟨⟨z,A⟩,rfl⟩:=b;exact⟨(x,l),rfl,za5 d,h x l z (eB A)⟩) qp qg
 cases s with
 | false=>
  refine na (ι:=Unit) (Gs:=λ_=>_) (λ_=>r0) λx w m b=>⟨(),?_⟩
  have j:=b;unfold pG at b;split at b
  case h_2=>simp at b
  split at b
  case isFalse=>simp at b
  split at b
  next d=>simp only[d];exact j
  .simp at b
  .simp at b
 | true=>
  have r1:=gC (P:=P) (gl:=gl) (G:=λx h=>match Hf h with|some .new=>pG Z e g c f x h|_=>.err) (kinds:=[Q2,Y (.sl e),Q2]) (ι:=List (N e)) (args:=λy=>[.ptr 0 0,.sl e y,.clo (.func g) [] [.ptr 1 0]]) (heap:=λ_=>Nm) (n0:=2) (n:=n) H (by simpa using U) (λ_=>rfl) (λy=>o rfl y) (v rfl) (λx w m b=>by
   have⟨p,x,q,u⟩:=x;split at b
   case h_2=>simp at b
   rename_i d;unfold pG at b;simp only at b;split at b
   case h_2=>simp at b
   split at b
   case isFalse=>simp at b
   rename_i C;subst C;rw[d]at b;simp only[oT,Tr.val_chk,ar,Tr.val_ok,ax]at b;obtain⟨⟨z,A⟩,rfl⟩:=b;exact⟨x,rfl,XF d,h' rfl x z (eB A)⟩) qp qg
  refine na (ι:=Bool) (Gs:=λq=>bif q then(λx h=>match Hf h with|some .new=>pG Z e g c f x h|_=>.err)else(λx h=>match Hf h with|some (.on _)=>pG Z e g c f x h|_=>.err)) (λq=>by cases q;exact r0;exact r1) λx w m b=>?_
  have j:=b;unfold pG at b;split at b
  case h_2=>simp at b
  split at b
  case isFalse=>simp at b
  split at b
  next d=>refine⟨false,?_⟩;simp only[bT,d];exact j
  next d=>refine⟨Z,?_⟩;simp only[bU,d];exact j
  .simp at b
theorem KN{x:List (N e)}{f:N e->zD}{c:N e->Bool}(H:Int->List Int->σ)(R:List Int->ac)
  (s:∀(i:Nat)(g:i<M x) l,c x[i]=Z->M l+(f x[i]).length<=aI->(t (H i l)).val=Y (.inl (H ((i+1:Nat):Int) (l++zR (f x[i])))))
  (a:∀l,(t (H (M x:Int) l)).val=Y (.inr (R l))) (d:∀h∈x,c h=Z):
  ∀(m i:Nat)(l:List Int)(n:Nat),M x-i=m->i<=M x->M l+((x.drop i).flatMap f).length<=aI->m<n->cg t n (H i l)=Y (R (l++zR ((x.drop i).flatMap f)))
 | 0,i,l,n+1,o,g,_,_=>by
  obtain rfl:i=M x:=by omega
  unfold cg;rw[a];simp[zR]
 | m+1,i,l,n+1,o,g,j,p=>by
  have b:i<M x:=by omega
  rw[mj b,List.flatMap_cons]at j|-;rw[cL]at j;unfold cg;rw[s i b l (d _ (bN b)) S];show cg t n (H ((i+1:Nat):Int) (l++zR (f x[i])))=_;rw[KN H R s a d m (i+1) _ n S S (by rw[cL,em];omega) S,iI];congr 3;simp[zR]
variable {x:List (N e)}{k:K (σ⊕ac)}
theorem ka{i:Nat}(h:i<M x)(l:M x<100000000){g:N e->Bool}{K:N e->Int->σ}(j:g x[i]=Z):
  (br (L ((i:Int)<(M x:Int))) (Qd (zT (i:Int) (M x)) (Qd (g (x.getD (i:Int).toNat (zk e))) (Tr.to (K (x.getD (i:Int).toNat (zk e)) (Γ Δ ((i:Int)+1)))))) k).val=Y (.inl (K x[i] ((i+1:Nat):Int))):=by
 have a:L ((i:Int)<(M x:Int))=Z:=by simpa using h
 have b:zT (i:Int) (M x)=Z:=by simp[zT];omega
 have c:Γ Δ ((i:Int)+1)=((i+1:Nat):Int):=zz i um;have d:x.getD (Int.toNat (i:Int)) (zk e)=x[i]:=by simp[h]
 rw[a,b,c,d,j];rfl
theorem jZ{r:R}{b:List AO}:(br (L ((M x:Int)<(M x:Int))) k (re r b)).val=Y (.inr (r,b)):=by rw[aQ S];rfl
theorem jY{f:N e->zD}{c:N e->Bool}(H:Int->List Int->σ)(R:List Int->ac)(j:M x<100000000)
  (s:∀(i:Nat)(m:i<M x) h,c x[i]=Z->M h+(f x[i]).length<=aI->(t (H i h)).val=Y (.inl (H ((i+1:Nat):Int) (h++zR (f x[i])))))
  (b:∀h,(t (H (M x:Int) h)).val=Y (.inr (R h))) (d:∀y∈x,c y=Z) {l:List Int} {a:zD} (g:M l+(a++x.flatMap f).length<=aI):cg t 100000000 (H 0 (l++zR a))=Y (R (l++zR (a++x.flatMap f))):=by have:=KN H R s b d (M x) 0 (l++zR a) 100000000 S (zU _) (by rw[List.drop_zero,cL,em];rw[cL]at g;omega) j;rw[List.drop_zero,iI]at this;rw[show zR (a++x.flatMap f)=zR a++zR (x.flatMap f)from fx];exact this
end
abbrev zn8:=fZ []
theorem zpo:zJ JF.P 15 f15 2:=bG kw
def ztn(t:jD)(l:List Int):K (Empty⊕ac):=
 let a:=l++zR (dZ t.1)
 let a1:=WS.on a
 let h:=a++zR (dZ t.2.1)
 let a3:=WS.on h
 Qd ((Z||(WS.on l).b)&&(Z&&L ((WS.on l).l.length+(dZ t.1).length<=aI)))
 (Qd ((Z||a1.b)&&(Z&&L (a1.l.length+(dZ t.2.1).length<=aI)))
  (Qd ((Z||a3.b)&&(Z&&L (a3.l.length+M (Lq t.q)<=aI))) (re (tup []) [Qb [Qf 1 0],Qb [Qf 1 0,AV.vec 3],AO.dead,AO.vec (Sh.int IntKind.u8) (h++zR (Lq t.q))])))
abbrev zhI:=fZ []
theorem zh7:zJ JF.P 82 f82 2:=bG kw
def znz(t:ci)(l:List Int):K (Empty⊕ac):=
 let a:=l++zR (dZ t.1)
 let a1:=WS.on a
 let h:=a++zR (ft t.2.1)
 let a3:=WS.on h
 Qd ((Z||(WS.on l).b)&&(Z&&L ((WS.on l).l.length+(dZ t.1).length<=aI)))
 (Qd ((Z||a1.b)&&(Z&&L (a1.l.length+(ft t.2.1).length<=aI)))
  (Qd ((Z||a3.b)&&(Z&&L (a3.l.length+M (Lq t.q)<=aI))) (re (tup []) [Qb [Qf 1 0],Qb [Qf 1 0,AV.vec 3],AO.dead,AO.vec (Sh.int IntKind.u8) (h++zR (Lq t.q))])))
abbrev zhL:=fZ []
theorem zh9:zJ JF.P 84 f84 2:=bG kw
def znB(t:bV)(l:List Int):K (Empty⊕ac):=
 let a:=l++zR (ft t.1)
 let a1:=WS.on a
 Qd ((Z||(WS.on l).b)&&(Z&&L ((WS.on l).l.length+(ft t.1).length<=aI)))
 (Qd ((Z||a1.b)&&(Z&&L (a1.l.length+(dZ t.2).length<=aI)))
  (re (tup []) [Qb [Qf 1 0],Qb [Qf 1 0,AV.vec 3],AO.dead,AO.vec (Sh.int IntKind.u8) (a++zR (dZ t.2))]))
theorem zdZ(l:List Int)(a b:zD):l++zR a++zR b=l++zR (a++b):=by rw[ek,iI]
theorem zd0(l:List Int)(a b c:zD):l++zR a++zR b++zR c=l++zR (a++(b++c)):=by rw[ek,ek,iI,iI]
def zjT:=cF aD (λ_=>Z) dh
theorem zeR:FK 15 zjT:=DM (eσ:=e0) (t:=t0) (n:=100000000) (keep:=zn8) (gas:=400) (i:=λx l=>ztn x l) p9 zpo (λx l=>by kernel_rfl) (Dh _ _ _ _ _) λx l _ h=>by
 have e:M l+((dZ x.1).length+((dZ x.2.1).length+(Lq x.q).length))<=aI:=by simpa[dh]using h
 refine ag ?_ (ag ?_ (ag ?_ ?_))
 .exact wg
 .exact wg
 .exact wg
 .show Y ((tup [],[.box [.ptr 1 0],.box [.ptr 1 0,.vec 3],.dead,.vec (.int .u8) (l++zR (dZ x.1)++zR (dZ x.2.1)++zR (Lq x.q))]):ac)=_;rw[zd0];rfl
def zbR:=cF zu (λ_=>Z) ig
theorem YP:FK 82 zbR:=DM (eσ:=e0) (t:=t0) (n:=100000000) (keep:=zhI) (gas:=400) (i:=λx l=>znz x l) p9 zh7 (λx l=>by kernel_rfl) (Dh _ _ _ _ _) λx l _ h=>by
 have e:M l+((dZ x.1).length+((ft x.2.1).length+(Lq x.q).length))<=aI:=by simpa[ig]using h
 refine ag ?_ (ag ?_ (ag ?_ ?_))
 .exact wg
 .exact wg
 .exact wg
 .show Y ((tup [],[.box [.ptr 1 0],.box [.ptr 1 0,.vec 3],.dead,.vec (.int .u8) (l++zR (dZ x.1)++zR (ft x.2.1)++zR (Lq x.q))]):ac)=_;rw[zd0];rfl
def zbU:=cF zW (λ_=>Z) ii
theorem YS:FK 84 zbU:=DM (eσ:=e0) (t:=t0) (n:=100000000) (keep:=zhL) (gas:=400) (i:=λx l=>znB x l) p9 zh9 (λx l=>by kernel_rfl) (Dh _ _ _ _ _) λx l _ h=>by
 have e:M l+((ft x.1).length+(dZ x.2).length)<=aI:=by simpa[ii]using h
 refine ag ?_ (ag ?_ ?_)
 .exact wg
 .exact wg
 .show Y ((tup [],[.box [.ptr 1 0],.box [.ptr 1 0,.vec 3],.dead,.vec (.int .u8) (l++zR (ft x.1)++zR (dZ x.2))]):ac)=_;rw[zdZ];rfl
def EN:=JF.addL [(15,zjT),(82,zbR),(84,zbU)]
theorem mu:zm EN:=p9.addL<|fc zeR<|fc YP<|fc YS ip
abbrev zn6:=fZ [(2,[2,12,13,14])]
inductive Iy where
 |h2 (l12:List (N (Sh.str.pr (Sh.str.pr Sh.bool)))) (i13:Int) (i14:Int) (lh_3:List (N (Sh.int IntKind.u8)))
abbrev zrJ:Iy->Nat×St
 |.h2 x i h l=>(2,⟨tm 22 [(2,AV.clo (Fn.func 15) [] [Qf 1 0]),(12,O (Sh.str.pr (Sh.str.pr Sh.bool)) x),(13,I i),(14,I h)],[Qb [Qf 0 0,AV.vec 3],Qb [Qf 0 0],AO.dead,AO.vec (Sh.int IntKind.u8) l]⟩)
theorem zpm:zJ EN.P 14 f14 3:=bG kw
def ztm(x:pQ)(l:List Int):K (Iy⊕ac):=
 Qd ((Z||(WS.on l).b)&&(Z&&L ((WS.on l).l.length+(ft (M x:Int)).length<=aI)))
 (Tr.to (Iy.h2 x (M x:Int) 0 (l++zR (ft (M x:Int)))))
def zuh:Iy->K (Iy⊕ac)
 | .h2 h x i l=>
  let a:=dh (h.getD i.toNat (zk (Sh.str.pr (Sh.str.pr Sh.bool))))
  br (L (i<x))
  (Qd (zT i (M h)) (Qd (Z&&L (M l+M a<=aI)) (Tr.to (Iy.h2 h x (Γ Δ (i+1)) (l++zR a)))))
  (re (tup []) [Qb [Qf 0 0,AV.vec 3],Qb [Qf 0 0],AO.dead,AO.vec (Sh.int IntKind.u8) l])
abbrev zoP:=fZ [(2,[2,12,13,14])]
inductive II where
 |h2 (l12:da) (i13:Int) (i14:Int) (lh_2:List (N (Sh.int IntKind.u8)))
abbrev zr6:II->Nat×St
 |.h2 x i h l=>(2,⟨tm 22 [(2,AV.clo (Fn.func 45) [Qf 0 0] []),(12,O zi x),(13,I i),(14,I h)],[Qb [Qf 0 0,AV.vec 2],AO.dead,AO.vec (Sh.int IntKind.u8) l]⟩)
theorem zp8:zJ EN.P 49 f49 3:=bG kw
def ztH(x:da)(l:List Int):K (II⊕ac):=
 Qd ((Z||(WS.on l).b)&&(Z&&L ((WS.on l).l.length+(ft (M x:Int)).length<=aI)))
 (Tr.to (II.h2 x (M x:Int) 0 (l++zR (ft (M x:Int)))))
def zul:II->K (II⊕ac)
 | .h2 x a i h=>
  let c:=ft (x.getD i.toNat (zk zi))
  br (L (i<a))
  (Qd (zT i (M x)) (Qd ((Z||(WS.on h).b)&&(Z&&L ((WS.on h).l.length+M c<=aI))) (Tr.to (II.h2 x a (Γ Δ (i+1)) (h++zR c)))))
  (re (tup []) [Qb [Qf 0 0,AV.vec 2],AO.dead,AO.vec (Sh.int IntKind.u8) h])
abbrev zhH:=fZ [(2,[2,12,13,14])]
inductive wQ where
 |h2 (l12:aU) (i13:Int) (i14:Int) (lh_3:List (N (Sh.int IntKind.u8)))
abbrev zmX:wQ->Nat×St
 |.h2 x i h l=>(2,⟨tm 22 [(2,AV.clo (Fn.func 82) [] [Qf 1 0]),(12,O zu x),(13,I i),(14,I h)],[Qb [Qf 0 0,AV.vec 3],Qb [Qf 0 0],AO.dead,AO.vec (Sh.int IntKind.u8) l]⟩)
theorem zh6:zJ EN.P 81 f81 3:=bG kw
def zny(x:aU)(l:List Int):K (wQ⊕ac):=
 Qd ((Z||(WS.on l).b)&&(Z&&L ((WS.on l).l.length+(ft (M x:Int)).length<=aI)))
 (Tr.to (wQ.h2 x (M x:Int) 0 (l++zR (ft (M x:Int)))))
def zqL:wQ->K (wQ⊕ac)
 | .h2 h x i l=>
  let a:=ig (h.getD i.toNat (zk zu))
  br (L (i<x))
  (Qd (zT i (M h)) (Qd (Z&&L (M l+M a<=aI)) (Tr.to (wQ.h2 h x (Γ Δ (i+1)) (l++zR a)))))
  (re (tup []) [Qb [Qf 0 0,AV.vec 3],Qb [Qf 0 0],AO.dead,AO.vec (Sh.int IntKind.u8) l])
abbrev zhJ:=fZ [(2,[2,12,13,14])]
inductive wR where
 |h2 (l12:eu) (i13:Int) (i14:Int) (lh_3:List (N (Sh.int IntKind.u8)))
abbrev zmY:wR->Nat×St
 |.h2 x i h l=>(2,⟨tm 22 [(2,AV.clo (Fn.func 84) [] [Qf 1 0]),(12,O zW x),(13,I i),(14,I h)],[Qb [Qf 0 0,AV.vec 3],Qb [Qf 0 0],AO.dead,AO.vec (Sh.int IntKind.u8) l]⟩)
theorem zh8:zJ EN.P 83 f83 3:=bG kw
def znA(x:eu)(l:List Int):K (wR⊕ac):=
 Qd ((Z||(WS.on l).b)&&(Z&&L ((WS.on l).l.length+(ft (M x:Int)).length<=aI)))
 (Tr.to (wR.h2 x (M x:Int) 0 (l++zR (ft (M x:Int)))))
def zqM:wR->K (wR⊕ac)
 | .h2 h x i l=>
  let a:=ii (h.getD i.toNat (zk zW))
  br (L (i<x))
  (Qd (zT i (M h)) (Qd (Z&&L (M l+M a<=aI)) (Tr.to (wR.h2 h x (Γ Δ (i+1)) (l++zR a)))))
  (re (tup []) [Qb [Qf 0 0,AV.vec 3],Qb [Qf 0 0],AO.dead,AO.vec (Sh.int IntKind.u8) l])
variable {α:Type}
def eC(c:α->Bool)(x:List α):Bool:=L (M x<100000000)&&x.all c
theorem jV{c:α->Bool}{x:List α}(h:eC c x=Z):M x<100000000/\∀y∈x,c y=Z:=by simpa[eC]using h
theorem iw{f:α->zD}{x:List α}(h:M l+(er f x).length<=aI):M l+(ft (M x:Int)).length<=aI:=by unfold er at h;rw[cL]at h;omega
def zjR:=au [Q2,Y (.sl aD),Q2] (pG false aD 15 (eC λ_=>Z) (er dh))
theorem zeO:FK 14 zjR:=DN (eσ:=zrJ) (t:=zuh) (n:=100000000) (keep:=zn6) (gas:=400) (i:=λx l=>ztm x l) mu zpm (λx l=>by kernel_rfl) (λs=>by cases s<;>kernel_rfl) (λx l m h=>by
 have⟨b,d⟩:=jV m;refine ag (by have:=iw h;exact wg) ?_
 exact jY (f:=dh) (c:=λ_=>Z) (λi a=>Iy.h2 x (M x) i a) (λa=>(tup [],[.box [.ptr 0 0,.vec 3],.box [.ptr 0 0],.dead,.vec (.int .u8) a])) b
  (λi o a _ p=>ka o b (g:=λy=>Z&&L (M a+(dh y).length<=aI)) (K:=λy j=>Iy.h2 x (M x) j (a++zR (dh y))) (by rw[zL p];rfl)) (λa=>jZ) d h)
 (σ':=Empty) (keep':=k0) (eσ':=e0) (t':=t0) (i':=λ_=>.err) nofun nofun nofun
def zbQ:=au [Q2,Y (.sl zu),Q2] (pG false zu 82 (eC λ_=>Z) (er ig))
theorem YO:FK 81 zbQ:=DN (eσ:=zmX) (t:=zqL) (n:=100000000) (keep:=zhH) (gas:=400) (i:=λx l=>zny x l) mu zh6 (λx l=>by kernel_rfl) (λs=>by cases s<;>kernel_rfl) (λx l m h=>by
 have⟨b,d⟩:=jV m;refine ag (by have:=iw h;exact wg) ?_
 exact jY (f:=ig) (c:=λ_=>Z) (λi a=>wQ.h2 x (M x) i a) (λa=>(tup [],[.box [.ptr 0 0,.vec 3],.box [.ptr 0 0],.dead,.vec (.int .u8) a])) b
  (λi o a _ p=>ka o b (g:=λy=>Z&&L (M a+(ig y).length<=aI)) (K:=λy j=>wQ.h2 x (M x) j (a++zR (ig y))) (by rw[zL p];rfl)) (λa=>jZ) d h)
 (σ':=Empty) (keep':=k0) (eσ':=e0) (t':=t0) (i':=λ_=>.err) nofun nofun nofun
def zbS:=au [Q2,Y (.sl zW),Q2] (pG false zW 84 (eC λ_=>Z) (er ii))
theorem YQ:FK 83 zbS:=DN (eσ:=zmY) (t:=zqM) (n:=100000000) (keep:=zhJ) (gas:=400) (i:=λx l=>znA x l) mu zh8 (λx l=>by kernel_rfl) (λs=>by cases s<;>kernel_rfl) (λx l m h=>by
 have⟨b,d⟩:=jV m;refine ag (by have:=iw h;exact wg) ?_
 exact jY (f:=ii) (c:=λ_=>Z) (λi a=>wR.h2 x (M x) i a) (λa=>(tup [],[.box [.ptr 0 0,.vec 3],.box [.ptr 0 0],.dead,.vec (.int .u8) a])) b
  (λi o a _ p=>ka o b (g:=λy=>Z&&L (M a+(ii y).length<=aI)) (K:=λy j=>wR.h2 x (M x) j (a++zR (ii y))) (by rw[zL p];rfl)) (λa=>jZ) d h)
 (σ':=Empty) (keep':=k0) (eσ':=e0) (t':=t0) (i':=λ_=>.err) nofun nofun nofun
def zkM:=au [Q2,Y (.sl zi),Q2] (mG zi 45 (eC λ_=>Z) (er ft))
theorem zfS:FK 49 zkM:=zcp (eσ:=zr6) (t:=zul) (n:=100000000) (keep:=zoP) (gas:=400) (i:=λx l=>ztH x l) mu zp8 (λx l=>by kernel_rfl) (λs=>by cases s<;>kernel_rfl) (λx l o h=>by
 have⟨d,m⟩:=jV o;refine ag (by have:=iw h;exact wg) ?_
 exact jY (e:=zi) (f:=ft) (c:=λ_=>Z) (λi a=>II.h2 x (M x) i a) (λa=>(tup [],[.box [.ptr 0 0,.vec 2],.dead,.vec (.int .u8) a])) d
  (λi p a _ q=>ka (e:=zi) p d (g:=λy=>(Z||(WS.on a).b)&&(Z&&L ((WS.on a).l.length+(ft y).length<=aI))) (K:=λy j=>II.h2 x (M x) j (a++zR (ft y))) (by show(Z&&(Z&&L (M a+_<=aI)))=Z;rw[zL q];rfl)) (λa=>jZ) m h)
def Vk:=EN.addL [(14,zjR),(81,zbQ),(83,zbS),(49,zkM)]
theorem EO:zm Vk:=mu.addL<|fc zeO<|fc YO<|fc YQ<|fc zfS ip
abbrev zoI:=fZ []
theorem zp0:zJ Vk.P 41 f41 2:=bG kw
def znN(t:am)(l:List Int):K (Empty⊕ac):=
 let g:=l++zR (dZ t.1)
 let i:=er ig t.2.1
 let j:=g++zR i
 let a3:=WS.on j
 let m:=ft t.q.1
 let o:=j++zR m
 let p:=er ft t.r.1
 let s:=o++zR p
 let v:=er ii t.t.1
 let w:=zP t.u
 let a:=s++zR v
 let a11:=WS.on a
 let h:=Z||a11.b
 let d:=iU w
 let c:=dZ d.1
 Qd ((Z||(WS.on l).b)&&(Z&&L ((WS.on l).l.length+(dZ t.1).length<=aI)))
 (Qd (eC (λ_=>Z) t.2.1&&L (M g+M i<=aI))
  (Qd ((Z||a3.b)&&(Z&&L (a3.l.length+M m<=aI))) (Qd (eC (λ_=>Z) t.r.1&&L (M o+M p<=aI)) (Qd (eC (λ_=>Z) t.t.1&&L (M s+M v<=aI)) (br (!zg.op t.u==[]) (Qd (jU w) (Qd (h&&(Z&&L (a11.l.length+M c<=aI)))
  (re (tup []) [Qb [Qf 0 0,AV.vec 2],AO.dead,AO.vec (Sh.int IntKind.u8) (a++zR c)]))) (Qd (h&&(Z&&L (a11.l.length+(dZ []).length<=aI))) (re (tup []) [Qb [Qf 0 0,AV.vec 2],AO.dead,AO.vec (Sh.int IntKind.u8) (a++zR (dZ []))])))))))
theorem zqy(l:List Int)(a b c d e f:zD):l++zR a++zR b++zR c++zR d++zR e++zR f=l++zR (a++(b++(c++(d++(e++f))))):=by simp only[ek,iI]
def Ic(t:am):Bool:=eC (λ_=>Z) t.2.1&&(eC (λ_=>Z) t.r.1&&(eC (λ_=>Z) t.t.1&&(t.u.op==[]||(jU t.u&&(iU t.u).1==uP t.u))))
def zkC:=wF false [zN] (λx=>Ic x.1) λx=>fk x.1
theorem zfH:FK 41 zkC:=wP (e:=e0) (t:=t0) (n:=100000000) (keep:=zoI) (gas:=400) (i:=λx l=>znN x.1 l) EO zp0 (λx l=>by kernel_rfl) (Dh _ _ _ _ _) λx l d h=>by
 have⟨t,u⟩:=x;have⟨n,c,k,j,g,ck⟩:=t;have d:Ic (n,c,k,j,g,ck)=Z:=d;simp only[Ic,ar,iJ,be]at d;have⟨m,o,p,q⟩:=d;have e:M l+((dZ n).length+((er ig c).length+((ft k).length+((er ft j).length+((er ii g).length+(dZ (uP ck)).length)))))<=aI:=by simpa[fk]using h
 unfold znN;simp only[zt];refine ag ?_ (ag ?_ (ag ?_ (ag ?_ (ag ?_ ?_))))
 .exact wg
 .rw[m];exact wg
 .exact wg
 .rw[o];exact wg
 .rw[p];exact wg
 .have b:b6 t0 100000000 (re (tup []) [Qb [Qf 0 0,AV.vec 2],AO.dead,AO.vec (Sh.int IntKind.u8) (l++zR (dZ n)++zR (er ig c)++zR (ft k)++zR (er ft j)++zR (er ii g)++zR (dZ (uP ck)))])=Y (N4 (.on l) (fk (n,c,k,j,g,ck)) (.tup [])):=by
   rw[zqy];rfl
  by_cases a:ck.op=[]
  .have w:uP ck=[]:=by unfold uP;rw[zf a]
   rw[w]at b e;rw[show(!ck.op==[])=false by rw[a];rfl];exact ag (by exact wg) b
  .have⟨s,v⟩:=q.resolve_left a;rw[show(!ck.op==[])=Z by simpa using a];rw[<-v]at b e;exact ag s (ag (by exact wg) b)
def zdi:=Vk.add 41 zkC
theorem R0:zm zdi:=EO.add zfH
open Go Go.Proofs Go.Lib
theorem Mg:∀(k n:Nat),n<10^(k+1)->(decDigits n).length<=k+1
 | 0,n,h=>by
  rw[decDigits,dif_pos S];simp
 | k+1,n,h=>by
  rw[decDigits];split
  .simp
  .rw[cL];have:=Mg k (n/10) (by rw[sD]at h;omega);simp;omega
theorem Kc{n:Int}(h:bq .i64 n):(itoa n).length<=21:=by
 have h:-9223372036854775808<=n/\n<=9223372036854775807:=by simpa[bq,IntKind.min,IntKind.max,IntKind.signed,IntKind.bits]using h
 unfold itoa;split
 .have:=Mg 19 n.natAbs S;simp;omega
 .have:=Mg 19 n.toNat S;omega
theorem WQ(h:n<=2000000000):bq .i64 (n:Int):=by simp[bq,IntKind.min,IntKind.max,IntKind.signed,IntKind.bits];omega
theorem io{t:zD}{N:Nat}(h:M t<=N)(x:N<=2000000000):(dZ t).length<=N+22:=by unfold dZ;have:=Kc (WQ (n:=M t) S);simp;omega
theorem pu{n:Int}(h:bq .i64 n):(ft n).length<=43:=io (Kc h) S
theorem Yj(b:Bool):(Lq b).length<=23:=io (by cases b<;>simp) S
theorem lT{f:α->zD}{l:List α}{N B:Nat}(b:M l<=N)(g:N<=2000000000)(h:∀x∈l,(f x).length<=B):(er f l).length<=43+N*B:=by
 unfold er;rw[cL];have d:=pu (WQ (n:=M l) S);have a:∀l:List α,(∀x∈l,(f x).length<=B)->(l.flatMap f).length<=M l*B:=λl=>by
  induction l with
  |nil=>intro _;simp
  | cons x r i=>
   intro h;have:=h x sw;have:=i λy c=>h y (by simp[c])
   simp only[List.flatMap_cons,cL,bx,jG];omega
 have:=a l h;have:=gu B b;omega
theorem V7{k:Int}(h:Sm k n)(x:n<=1000):bq .i64 k:=by unfold Sm at h;simp[bq,IntKind.min,IntKind.max,IntKind.signed,IntKind.bits];omega
variable {t:am}
theorem Yh(h:sx t):∀c∈t.2.1,M c.1<=16/\bq .i64 c.2.1:=λc g=>by
 obtain⟨i,a,rfl⟩:=jf g;have⟨x,b,d,_⟩:=h.cols i a;have e:List.getD t.2.1 i (zk zu)=t.2.1[i]:=by rw[bf,zQ a];rfl
 rw[e]at x b d;refine⟨eO x,?_⟩;simp[bq,IntKind.min,IntKind.max,IntKind.signed,IntKind.bits];omega
structure LU (t:am):Prop where
 may:gO t=Z
 wf:WfT t
theorem LU.ck(h:LU t):FV t.u:=(C2 h.may h.wf.chk).1
theorem ZH{e:zg}(h:FV e)(b:e.op≠[]->gY e=Z):(e.op==[]||(jU e&&(iU e).1==uP e))=Z/\(uP e).length<=24000:=by
 unfold uP;by_cases x:e.op=[]
 .rw[zf x,x];exact⟨rfl,sw⟩
 .have a:=b x;have c:mh e:=by
   rcases h with rfl|h
   .exact zp rfl x
   .exact h.2
  rw[zh x];have d:iU e=(aq 16 e,0):=by unfold iU;rw[a];rfl
  rw[tk,d];refine⟨sw,(XJ c a).q⟩
theorem ziW(h:LU t)(x:t.u.op≠[]):gY t.u=Z:=sx.may ((jr _).1 h.may) (by simpa using x)
theorem mw{l:List α}(h:M l<=2000000):eC (λ_=>Z) l=Z:=by simp[eC];omega
theorem GH{c:α->Bool}{l:List α}(h:M l<=2000000)(a:∀x∈l,c x=Z):eC c l=Z:=by simp only[eC,ar,aT,dg];exact⟨S,a⟩
theorem ux(h:LU t):Ic t=Z/\(fk t).length<=200000:=by
 have x:=(jr t).1 h.may;have⟨m,o⟩:=ZH h.ck (ziW h);have p:=h.wf.nuq;have s:=h.wf.nrf;have v:=x.n8;constructor
 .unfold Ic;rw[mw S,mw S,mw S];exact m
 .have w:=io (eO x.name) S;have y:=lT (f:=ig) (B:=120) v S λc i=>by
   have⟨a,b⟩:=Yh x c i;have:=io a S;have:=pu b;have:=Yj c.q;unfold ig;simp only[cL];omega
  have z:=pu (V7 x.key S);have A:=lT (f:=ft) (B:=43) p S λu l=>pu (V7 (x.uniq u l) S)
  have C:=lT (f:=ii) (B:=100) s S λf j=>by
   have⟨d,g⟩:=x.refs f j;have:=pu (V7 d S);have:=io (eO g) S;unfold ii;simp only[cL];omega
  have D:=io o S;unfold fk;simp only[cL];omega
theorem Gf{v:zw}(h:aP v=Z):(cV v).length<=42:=by
 rw[xe h];rcases iX h with rfl|⟨i,rfl⟩|⟨s,rfl,_⟩|rfl|rfl
 .simp[Uo]
 .simp[Uo,YA]
 .have:=PC h;have:M s<=40:=this;simp[Uo];omega
 .simp[Uo]
 .simp[Uo]
structure uM (r:zX):Prop where
 ok:eI r
 wf:wV r
variable {r:zX}
theorem uM.tab(h:uM r):LU r.1:=⟨h.ok.may,h.wf.t⟩
theorem uM.row(h:uM r):∀w∈r.2,M w<=8/\∀v∈w,aP v=Z/\Ap v:=λw a=>by
 have⟨c,b,_⟩:=dB (h.ok.fits w a);have:=((jr _).1 h.ok.may).n8;exact⟨S,λv x=>⟨b v x,h.wf.vals w a v x⟩⟩
theorem uM.relW(h:uM r):Zl r:=⟨h.tab.ck,λw a v x=>(h.row w a).2 v x⟩
theorem uM.len(h:uM r):(bA r).length<=300000:=by
 have j:=(ux h.tab).2;have m:=lT (f:=gK) (B:=400) h.ok.few S λw c=>by
  have⟨o,g⟩:=h.row w c;have a:∀l:zo,(∀v∈l,aP v=Z)->(l.flatMap cV).length<=M l*42:=λl=>by
   induction l with
   |nil=>intro _;simp
   | cons x r i=>
    intro h;have:=Gf (h x sw);have:=i λy d=>h y (by simp[d])
    simp only[List.flatMap_cons,cL,bx,jG];omega
  have:=a w λv b=>(g v b).1
  exact aB (io (N:=336) S S) S
 unfold bA;rw[cL];omega
structure Zm (m:cU):Prop where
 ix:∀c∈m.1.t.1,bq .i64 c
 on:bq .i64 m.1.u
 bad:bq .i64 m.r
variable {d:zH}{m:cU}
theorem pt(b:oL m)(a:nZ d m):∀x∈m.2.1,uM x:=λx h=>⟨a.plan.base.rels _ (fQ.2 h),b.src x h⟩
theorem tS(b:dO d)(c:∀x∈d,wV x)(a:nZ d m):LU m.1.r.1:=by have⟨h,_⟩:=eY a.find;have:=a.tab;exact⟨by rw[<-this];exact(b.rels _ h).may,by rw[<-this];exact(c _ h).t⟩
theorem zhZ(a:dO d)(c:∀x∈d,wV x)(b:oL m)(h:nZ d m):TQ m:=
 ⟨(tS a c h).ck,λx g=>(pt b h x g).relW,h.trk⟩
theorem WL{g:zH}(y:dO g)(C:∀x∈g,wV x)(p:oL m)(i:Zm m)(a:nZ g m):(dX m).length<=2000000:=by
 have d:=a.plan;have o:M m.1.1<=5:=by
  rcases d.ok.mig with h|h|h<;>rw[h]<;>simp
 have b:∀n∈bK m.1.2.1 m.1.q.1,M n<=16:=λn b=>by
  rw[<-d.names]at b;obtain⟨x,l,rfl⟩:=aN.1 b;exact eO ((jr _).1 (pt p a x l).ok.may).name
 have u:M m.1.2.1<=16:=b _ (by unfold bK;split<;>simp);have w:M m.1.q.1<=16:=by
  by_cases h:(m.1.q.1==[])=Z
  .rw[aY h];simp
  .exact b _ (by unfold bK;rw[zh h];simp)
 have j:M m.2.1<=2:=by
  have:=congrArg M d.names;rw[bR]at this;rw[this];unfold bK;split<;>simp
 have D:=io o S;have F:=io u S;have G:=io w S;have H:=(ux (tS y C a)).2;have U:=lT (f:=ft) (B:=43) d.mok.few S λc z=>pu (i.ix c z)
 have a6:=pu i.on;have a7:=lT (f:=bA) (B:=300000) j S λx l=>(pt p a x l).len
 have a8:=lT (f:=dY) (B:=100) a.n200 S λv A=>aB (io (Gf (a.trk.1 v A).1) S) S
 have a9:=io (t:=qS m.q.1) (N:=200) (by unfold qS;rw[bR,List.length_range];exact a.n200) S;have s:=pu i.bad;unfold dX sV;simp only[cL];omega
def GrS(l:bu):Prop:=∀g∈l.2.1,M g.1<=1000/\M g.2.1<=1000
structure kA (l:bu):Prop where
 base:dO l.1
 wf:∀x∈l.1,wV x
 gr:M l.2.1<=1000
 gs:GrS l
 mv:M l.q<=4
 moves:∀m∈l.q,oL m/\Zm m/\nZ l.1 m
theorem kA.rel{l:bu}(h:kA l):∀x∈l.1,uM x:=λx a=>⟨h.base.rels x a,h.wf x a⟩
theorem kA.w{l:bu}(h:kA l):zcx l:=⟨λx b=>(h.rel x b).relW,λm a=>zhZ h.base h.wf (h.moves m a).1 (h.moves m a).q⟩
variable {a:bu}
theorem kA.len1(h:kA a):(er bA a.1).length<=5000000:=by
 have:=lT (f:=bA) (B:=300000) h.base.few S λx b=>(h.rel x b).len
 omega
theorem kA.len2(h:kA a):(er dh a.2.1).length<=5000000:=by
 have:=lT (f:=dh) (B:=3000) h.gr S λg c=>by
  have⟨x,b⟩:=h.gs g c;have:=io x S;have:=io b S;have:=Yj g.q;unfold dh;simp only[cL];omega
 omega
theorem kA.len3(h:kA a):(er dX a.q).length<=10000000:=by
 have:=lT (f:=dX) (B:=2000000) h.mv S λm x=>WL h.base h.wf (h.moves m x).1 (h.moves m x).2.1 (h.moves m x).q
 omega
end
end Cad
