/- Units. -/
import Derived.Test.YtjdjldbhjmgmkaaGreatDoorP21
namespace Cad
open Go Go.Proofs
open List renaming length->Io,take->Qg,length->X
open IntKind renaming wrap->Γ,i64->Δ
open Tr renaming «to»->Q9,val->Q8,chk->K
open Bool renaming true->O,false->S
open Option renaming none->Q2,some->M
open Decidable renaming decide->T,decide->Q0
open Int renaming toNat->Z
open List renaming getD->Y
open Tr (chk br re)
open AV (nils agg tup ptr kb)
open AV renaming sl->N,str->I
open Cad renaming zi->Q,ow->W,Sem->J,ze->R,ai->L
set_option maxHeartbeats 4000000
noncomputable section
def JZ(p:aA):Prop:=X p.r.1.2.1<=1000/\X p.r.1.r.1<=1000000/\X p.r.1.t.1<=1000000/\ol 16 p.r.1.u=O/\X p.t.1<=1000000
theorem ph:JZ lw:=⟨aG _,aG _,aG _,rfl,aG _⟩
variable {c:Int}{p:aA}
theorem vH(h:c=0->JZ p):JZ (jn c p).2:=by
 unfold jn;split
 .split
  .exact h (by assumption)
  .exact ph
 .exact ph
variable {s:zO}
theorem RG(db:zS)(x:PS s):JZ (bp db s).2:=by
 have b:=x.sh.names.1;unfold bp;split;rotate_left
 .exact ph
 split;rotate_left
 .exact ph
 unfold cT;split
 .refine vH λ_=>⟨?_,aG _,aG _,x.cp,?_⟩
  .show(e7 _ _).length<=_;unfold e7;rw[dc];omega
  .show(kd _ _).length<=_;unfold kd;rw[dc];omega
 split
 .refine vH λh=>?_
  have a:(au db s.q.1).2.1.length+(eV db s.p).2.1.length<=9:=by
   unfold gK at h;split at h
   .cases h
   split at h;rotate_left
   .cases h
   split at h
   .cases h
   .omega
  have c:=mB (eV db s.p).q.1 (X (eV db s.p).2.1);refine⟨?_,aG _,aG _,x.cp,?_⟩
  .show(_++jv _ _).length<=_;unfold jv;rw[jK,dc];omega
  .show(nR _ _).length<=_;unfold nR;rw[dc];omega
 split
 .refine vH λ_=>⟨?_,aG _,aG _,x.cp,?_⟩
  .show(Ar _ _).length<=_;unfold Ar;simp
  .show(kd _ _).length<=_;unfold kd;rw[dc];omega
 .exact ph
def fa(db:zS)(p:aA):ae:=Y (zT db p) 0 (Q zl)
structure aP (db:zS) (p:aA):Prop where
 go:SJ p (zT db p)
 rel:ef (fa db p)
 plc:yx p (zT db p)=M (dV p (zT db p),())
 inn:∀row∈(fa db p).2,zL (dV p (zT db p)) (X row)=O/\X row=X (fa db p).1.2.1
 fnd:∀n∈ce p.2.1 p.q.1,LE.le (α:=Int) 0 (ak db n)
 mig:lu p.1
 col:LE.le (α:=Int) 0 (dV p (zT db p))/\LT.lt (α:=Int) (dV p (zT db p)) (X (fa db p).1.2.1)
variable {db:zS}
theorem zaO(A:∀x∈db,ij x)(hp:(bp db s).1=0)(U:PS s):aP db (bp db s).2:=by
  have⟨hm,D,hb,B,h8,m⟩:=K0 hp;have⟨c1,c2,_,c4,c5,H⟩:=WP A hp U.sh;have hB:=(jQ A).1 hb;have⟨b1,b2,b3,b4,b5⟩:=RG db U;have l:=kO D;have y:(cT db s).1=0:=by rw[<-m];exact hp
  have⟨f1,f2,f3⟩:=DI y;rw[m]at c1 c2 c4 c5 H b1 b2 b3 b4 b5|-;have C:∀n∈ce (cT db s).q.1 (cT db s).r.1,LE.le (α:=Int) 0 (ak db n):=by rw[f2,f3];exact B
  have h0:LE.le (α:=Int) 0 (ak db s.q.1):=B _ (by unfold ce;split<;>simp);have hx:fa db (cT db s).2=jS (aL (ce s.q.1 (cR s))) (aQ db s.q.1):=by
    unfold fa zT;rw[f2,f3];have:∃r,ce s.q.1 (cR s)=s.q.1::r:=by unfold ce;split<;>exact⟨_,rfl⟩
    have⟨r,e⟩:=this;rw[e];rfl
  have z:ef (fa db (cT db s).2):=by rw[hx];exact(hB.rels _ (kg h0).1).cut
  have j:(fa db (cT db s).2).1.2.1=(au db s.q.1).2.1:=by rw[hx];rfl
  have⟨m1,m2⟩:=zaH (b:=(cT db s).2) W b2 b3 b4 b5;have o:∀row∈(fa db (cT db s).2).2,X row=X (fa db (cT db s).2).1.2.1:=λrow G=>(cL (z.fits row G)).1
  have c : (LE.le (α:=Int) 0 (dV (cT db s).2 (zT db (cT db s).2))∧LT.lt (α:=Int) (dV (cT db s).2 (zT db (cT db s).2)) (Io (fa db (cT db s).2).1.2.1))∧((cT db s).2.1≠dI→(cT db s).2.1≠ic→0 < Io (cT db s).u.1):=by
    unfold dV;rw[f1];rcases hm with g|g|g
    · rw[zf g]
      refine⟨?_,λh=>zA g h⟩;have⟨k1,_⟩:=gS z.may;exact k1
    · have E:s.1≠dI:=by rw[g];decide
      rw[zh E,zf g];refine⟨?_,λ_ h=>zA g h⟩
      have e:(cT db s)=jn (gK (au db s.q.1) (eV db s.p) s.u.1 s.p)
          (s.1,s.q.1,s.p,(s.2.1,(au db s.q.1).2.1++jv (eV db s.p) (X (eV db s.p).2.1),(au db s.q.1).q.1,[],[],s.x.1),
            nR (eV db s.p).q.1 (X (eV db s.p).2.1),zZ (au db s.q.1) s.u.1):=by
        unfold cT;rw[zh (by simpa using E),zf (by simp[g])]
      have e0:=y;rw[e]at e0;have⟨w,P⟩:=jo e0;have d:¬LT.lt (α:=Int) (zZ (au db s.q.1) s.u.1) 0:=by
        intro h4;unfold gK at w;rw[zf h4]at w;cases w
      have h6:(cT db s).v=zZ (au db s.q.1) s.u.1:=by rw[e,P]
      show LE.le (α:=Int) 0 (cT db s).v/\LT.lt (α:=Int) (cT db s).v _;rw[h6,j];exact⟨W,(iS d).2⟩
    · have E:s.1≠dI:=by rw[g];decide
      have n2:s.1≠ic:=by rw[g];decide
      rw[zh E,zh n2];have e:(cT db s)=jn (rH (au db s.q.1) s.r.1) (s.1,s.q.1,s.p,(s.2.1,Ar (au db s.q.1) s.r.1,0,[],[],s.x.1),kd (au db s.q.1) s.r.1,0):=by
        unfold cT;rw[zh (by simpa using E),zh (by simpa using n2),zf (by simp[g])]
      have e0:=y;rw[e]at e0;have⟨w,P⟩:=jo e0;have h7:gT (au db s.q.1) s.r.1=0:=by
        unfold rH at w;split at w
        · assumption
        · exact w
      have d:=rT h7;have h3:(cT db s).u.1=kd (au db s.q.1) s.r.1:=by rw[e,P]
      have h2:=kG l g;rw[h3,j]
      match h5:s.r.1,h2 with
      | [a,b],_=>
        rw[h5]at d;have ha:=d a sw
        exact ⟨⟨by have:¬ LT.lt (α:=Int) (zZ (au db s.q.1) a) 0:=ha
                   show LE.le (α:=Int) 0 (zZ (au db s.q.1) a);omega,(iS ha).2⟩,λ_ _=>by simp[kd]⟩
  have F:=qu H;refine⟨⟨c2,H,by rw[c1],by rw[c4];exact U,c5,b1,m1,m2.2 rfl⟩,z,WY F.1 c.2,λrow G=>⟨?_,o row G⟩,C,by rw[f1];exact hm,c.1⟩;rw[o row G];unfold zL;rw[aN];have h1:=c.1.1;have h2:=c.1.2;exact⟨zB h1,zB W⟩
section
variable {db:List (J zl)} {p:J ar}
theorem aP.pc(h:aP db p):nJ p (zT db p)=O/\dC p (zT db p)=dV p (zT db p):=
 ⟨by unfold nJ;rw[h.plc];rfl,by unfold dC;rw[h.plc];rfl⟩
theorem aP.at_mem(h:aP db p){row:zr}(a:row∈(fa db p).2):Y row (Z (dV p (zT db p))) (Q R)∈row:=by have x:=(h.inn row a).1;simp only[zL,aN,aY]at x;exact ET _ _ W
theorem aP.may(h:aP db p){x:zq}(b:x∈Mv p (zT db p)):be x=O:=by obtain⟨row,a,rfl⟩:=bn.1 b;rw[h.pc.2];exact(cL (h.rel.fits row a)).2.1 _ (h.at_mem a)
theorem aP.all(h:aP db p):JL p (zT db p)=O:=by unfold JL;simp only[aN,aY,eu];refine⟨h.pc.1,zx (i:=0) (qu h.go.two).1,bc h.rel.few W,λrow x=>⟨?_,h.may (bn.2 ⟨row,x,rfl⟩)⟩⟩;rw[h.pc.2];exact(h.inn row x).1
theorem aP.len(h:aP db p){row:zr}(x:row∈(fa db p).2):X row<=8:=by rw[(h.inn row x).2];exact(gS h.rel.may).r.1
theorem aP.few(_:aP db p):(bQ p (zT db p)).length<=(fa db p).2.length:=by have:=XG (Mv p (zT db p));have e:(Mv p (zT db p)).length=(fa db p).2.length:=dc _;rw[e]at this;exact this
theorem aP.keys(h:aP db p)(b:p.1=dI):(Mv p (zT db p)).Nodup/\∀x∈Mv p (zT db p),x.1≠0:=by
 have d:dC p (zT db p)=(fa db p).1.q.1:=by
  rw[h.pc.2];unfold dV;rw[zf b];rfl
 have e:Mv p (zT db p)=(fa db p).2.map (zP (fa db p).1.q.1):=by
  unfold Mv;rw[d];rfl
 rw[e];refine⟨Tw h.rel.pw,λx j=>?_⟩;obtain⟨row,a,rfl⟩:=bn.1 j;have g:=(jE _).1 h.rel.may;have c:=h.rel.keys row a;simp only[zL,aN,aY]at c;exact(cL (h.rel.fits row a)).q _ W g.nn
theorem aP.is(h:aP db p)(v:zq):v∈bQ p (zT db p)↔(fa db p).2.filter (Rn (dV p (zT db p)) v)≠[]:=by
 unfold bQ;rw[(ws λx j=>h.may j).2];show _↔¬(fa db p).2.filter (Rn (dV p (zT db p)) v)=[];rw[List.filter_eq_nil_iff];constructor
 .rintro⟨j,b⟩ d;have⟨row,a,e⟩:=bn.1 j;rw[h.pc.2]at e;exact d row a (nu.2 ⟨e,b⟩)
 .intro d;have:∃row∈(fa db p).2,Rn (dV p (zT db p)) v row=O:=by
   refine kX λg=>d λrow a c=>g ⟨row,a,c⟩
  have⟨row,a,c⟩:=this;have⟨e,b⟩:=nu.1 c;refine⟨bn.2 ⟨row,a,?_⟩,b⟩;show Y row (Z (dC p (zT db p))) (Q R)=v;rw[h.pc.2];exact e
end
def RgV(v:zq):Prop:=LE.le (α:=Int) (-9223372036854775808) v.2.1/\LE.le (α:=Int) v.2.1 9223372036854775807
mutual
def W8:zg->Prop
 |.mk _ v _ l=>RgV v/\JY l
def JY:List zg->Prop
 |[]=>True
 |e::r=>W8 e/\JY r
end
theorem JY.mem:∀{l:List zg},JY l->∀e∈l,W8 e
 |[],_,e,h=>by simp at h
 | x::r,h,e,a=>by
  rw[JY]at h;rcases bZ.1 a with rfl|a
  .exact h.1
  .exact JY.mem h.2 e a
theorem lC.app:∀{a b:List zg},lC a->lC b->lC (a++b)
 |[],_,_,h=>h
 | x::r,b,h,hb=>by
  rw[lC]at h;rw[List.cons_append,lC];exact⟨h.1,h.2.app hb⟩
theorem PH(k:Nat)(s:zJ)(h:k<=1000):(Qg (Z (k:Int)-Z 0) (List.drop (Z 0) s)).length<=1000000:=by simp;omega
theorem zac{n k:Nat}(h:¬T ((n:Int)>(k:Int))=O)(x:k<=1000):n<=1000000:=by
 have:¬(n:Int)>(k:Int):=by simpa using h
 omega
theorem lC.of:∀{l:List zg},(∀x∈l,vd x)->lC l
 |[],_=>by rw[lC];trivial
 |x::r,h=>by rw[lC];exact⟨h x sw,lC.of λy a=>h y (by simp[a])⟩
theorem Cz{e:zg}(h:W8 e):vd (iP e):=by
 have⟨r,m,d,g⟩:=KB (P:=λ_ e r=>W8 e->vd r) (λa e o t s l j _ z w b=>by
  have⟨B,v,C,A⟩:=e;rw[W8]at b;rw[vd];exact⟨⟨b.1.1,b.1.2,by show X t<=_;omega⟩,W,lC.of λy q=>by
   have⟨x,n,c⟩:=j y q;exact c (b.2.mem x n)⟩) 16 e 14 80 W W W
 unfold iP;rw[zg.eta,show uk 16 e 14 80=(r,m) by unfold uk;rw[d];rfl];exact g h
theorem Gv(s:zJ):(kj s).length<=1000000:=by
 unfold kj;split
 .exact PH 20 s W
 .exact zac (k:=20) (by assumption) W
theorem ZT(l:aT):(kI l).length<=9/\∀c∈kI l,X c.1<=1000000:=by refine⟨by show((Qg 9 l).map _).length<=9;rw[dc,oy];omega,λc h=>?_⟩;obtain⟨x,_,rfl⟩:=bn.1 h;exact Gv x.1
variable {t:al}
theorem zf1(h:W8 t.u):DA (GQ t):=by
 have x:=ZT t.2.1;refine⟨Gv _,x.2,bc x.1 W,?_,?_,λf a=>?_,Cz h⟩
 .show(Qg 10 _).length<=_;rw[oy];omega
 .show((Qg 10 _).map _).length<=_;rw[dc,oy];omega
 .obtain⟨g,_,rfl⟩:=bn.1 a;exact Gv _
theorem zf7{v:zq}(h:RgV v):mf (HA v):=by
 unfold HA;split
 .exact⟨h.1,h.2,PH 60 v.q W⟩
 .exact⟨h.1,h.2,zac (k:=60) (by assumption) W⟩
variable {a:zr}
theorem Oi(h:∀v∈a,RgV v):∀v∈oO a,mf v:=λv b=>by
 obtain⟨x,c,rfl⟩:=bn.1 b;exact zf7 (h x (List.mem_of_mem_take c))
structure RgR (x:ae):Prop where
 chk:W8 x.1.u
 vals:∀r∈x.2,∀v∈(r:zr),RgV v
variable {x:ae}
theorem ZR(h:RgR x):My (E5 x):=by
 have⟨rows,b,c⟩:=Oh x;have d:E5 x=(GQ x.1,rows):=by unfold E5;rw[c];rfl
 rw[d];refine⟨zf1 h.chk,by show X rows<=1000;have:=b.1;omega,λr e v g=>?_⟩;obtain⟨j,a,rfl⟩:=b.2 r e;exact Oi (h.vals j a) v g
structure RgS (s:zO):Prop where
 chk:W8 s.x.1
 whr:W8 s.s.1
 row:∀v∈s.y.1,RgV v
 sets:∀x∈s.z.1,W8 (x:J jb).2
theorem ZQ(h:RgS s):∃b:zO,AA s=M (b,())/\PS b/\yD b:=by
 have⟨b,d,c,a⟩:=Rp s;refine⟨b,d,c,c.sh,?_,?_,c.cp,?_,?_,?_⟩
 .rw[a.chk];exact Cz h.chk
 .rw[a.whr];exact Cz h.whr
 .rw[a.whr];exact Ki _
 .rw[a.row];exact Oi h.row
 .intro x g;have⟨y,j,e⟩:=a.sets x g;rw[e];exact⟨Cz (h.sets y j),Ki _⟩
theorem zbS{src:zS}{o:Bool}(h:FE p db=M (src,o,())):CG p db=M (p,src,o,()):=by
 have c:RI p db=O:=by unfold RI;rw[h];rfl
 have x:zaX p db=(src,o):=by unfold zaX;rw[h];rfl
 have e:p=(p.1,p.2.1,p.q.1,(p.r.1.1,p.r.1.2.1,p.r.1.q.1,p.r.1.r.1,p.r.1.t.1,zt p.r.1.u),p.t):=by rw[zo]
 refine(zQ (i:=zmz p db) (t:=t0) (n:=100000000) (outs:=[ar,zl.sl,Sh.bool]) (by
  simp only[zmz,zo,bh,Q8,c,x,zj];rfl) (y:=((p.1,p.2.1,p.q.1,(p.r.1.1,p.r.1.2.1,p.r.1.q.1,p.r.1.r.1,p.r.1.t.1,zt p.r.1.u),p.t),src,o,())) rfl).trans ?_
 rw[<-e]
theorem aP.uall(h:aP db p):Mu p (zT db p)=M (bQ p (zT db p),0,()):=by have⟨c,x⟩:=CM h.go;refine zQ (r:=(tup [N R (bQ p (zT db p)),L 0],[])) ?_ rfl;simp only[zsQ,zo,bh,Q8,c,x,h.all,ib,zD,zj,zm]
theorem zf9(v:zq)(q:X a<=1000000):zbY a v=M (ah (Co v) a 0,()):=by
 have j:(zte a v).val=M (.inl (.h2 a (X a:Int) ((0:Nat):Int) (v,()))):=rfl
 have b:∀k,k<=X a->(∀x∈a.take k,Co v x=S)->zH WU (k*1) (.h2 a (X a:Int) ((0:Nat):Int) (v,())) (.h2 a (X a:Int) (k:Int) (v,())):=λk e m=>
  zH.all (t:=WU) 1 (λi=>.h2 a (X a:Int) (i:Int) (v,())) k λi o=>zH.of (by
   have h:i<X a:=by omega
   have c:Co v a[i]=S:=m _ (List.mem_take_iff_getElem.2 ⟨i,W,rfl⟩);unfold Co at c;simp only[WU,Q8,zN h,zx h,zj,zX _ _ h,c,zD,zm];rw[zu i um])
 rcases eL (Co v) a 0 with⟨g,d⟩|⟨k,e,g,d,l⟩
 .rw[g];refine zz j ((b (X a) (zM _) (λx n=>d x (List.mem_of_mem_take n))).ends (zU.of (r:=(.int .i64 (-1),[])) ?_)) W rfl;simp only[WU,Q8,zK,zD,zm]
 .rw[g];refine zz j ((b k W l).ends (zU.of (r:=(.int .i64 (k:Int),[])) ?_)) W (by rw[eI];rfl);unfold Co at d;simp only[WU,Q8,zN e,zx e,zj,zX _ _ e,d]
theorem zf8{l:zr}(v:zq)(b:X l<=1000000):PJ l v=O/\HB l v=l.any (Co v):=by
 have h:=zf9 v b;have c:zbX l v=O:=by unfold zbX;rw[h];rfl
 have x:zot l v=ah (Co v) l 0:=by unfold zot;rw[h];rfl
 have a:T (GE.ge (α:=Int) (ah (Co v) l 0) 0)=l.any (Co v):=by rw[oA,Aw,List.any_eq_true]
 have:zbW l v=M (l.any (Co v),()):=by
  refine zQ (r:=(.bool (l.any (Co v)),[])) ?_ rfl;simp only[zs7,Q8,c,x,zj];rw[a]
 exact⟨by unfold PJ;rw[this];rfl,by unfold HB;rw[this];rfl⟩
theorem Ph(v:zq)(h:dM x.1=O):LJ x v=O/\Uj x v=ah (λr=>bK r x.1.2.2.1 v) x.2 0:=by
 have:LK x v=M (ah (λr=>bK r x.1.2.2.1 v) x.2 0,()):=by
  refine zQ (r:=(.int .i64 (ah (λr=>bK r x.1.2.2.1 v) x.2 0),[])) ?_ rfl;simp only[zs6,zo,bh,Q8,h,cj,zD,zm]
 exact⟨by unfold LJ;rw[this];rfl,by unfold Uj;rw[this];rfl⟩
variable {row:zr}
theorem sZ{v:zq}(h:zL c (X row)=O):bK row c v=O↔zP c row=v:=by simp only[zL,aN,aY]at h;unfold bK;rw[zB (show GE.ge (α:=Int) c 0 from h.1),zB (show LT.lt (α:=Int) c (X row:Int)from h.2),aI,aI];exact jF
theorem ef.find(h:ef x)(g:row∈x.2):
  ∃(k:Nat)(b:k<X x.2),ah (λr=>bK r x.1.2.2.1 (zP x.1.2.2.1 row)) x.2 0=(k:Int)/\x.2[k]=row:=by
 rcases eL (λr=>bK r x.1.2.2.1 (zP x.1.2.2.1 row)) x.2 0 with⟨_,d⟩|⟨k,b,n,d,_⟩
 .have:=d row g;rw[(sZ (h.keys row g)).2 rfl]at this;cases this
 .refine⟨k,b,by rw[n,eI],?_⟩;have e:=(sZ (h.keys _ (bC b))).1 d;obtain⟨j,l,rfl⟩:=fO g;by_cases c:k=j
  .subst c;rfl
  .have m:=List.pairwise_iff_getElem.1 (List.pairwise_map.1 (Tw h.pw));rcases Nat.lt_or_gt_of_ne c with a|a
   .exact zA e (m k j b l a)
   .exact zA e.symm (m j k l b a)
section
variable {db:List (J zl)} {p:J ar}
theorem aP.has(h:aP db p){row:zr}(b:row∈(fa db p).2)(x:(zP (dV p (zT db p)) row).1≠0):zP (dV p (zT db p)) row∈bQ p (zT db p):=by
 refine(h.is _).2 λa=>?_
 have:=List.filter_eq_nil_iff.1 a row b;exact this (nu.2 ⟨rfl,x⟩)
theorem aP.hasC(h:aP db p)(v:zq):PJ (bQ p (zT db p)) v=O/\(HB (bQ p (zT db p)) v=O↔v∈bQ p (zT db p)):=by
 have g:=h.few;have j:=h.rel.few;obtain⟨a,b⟩:=zf8 (l:=bQ p (zT db p)) v W;refine⟨a,?_⟩;rw[b,List.any_eq_true];constructor
 .rintro⟨x,d,e⟩;rw[jF.1 e];exact d
 .intro c;exact⟨v,c,jF.2 rfl⟩
def Hr(db:zS)(p:aA)(v:zq):zq×Int:=
 if p.1=ic then
  let a:=ah (λr=>bK r (fa db p).1.2.2.1 v) (fa db p).2 0
  if LT.lt (α:=Int) a 0 then((0,0,[]),6)else
   let u:=zP p.t.2 (Y (fa db p).2 a.toNat (Q ze.sl))
   if HB (bQ p (zT db p)) u=O then(u,0)else((0,0,[]),6)
 else if HB (bQ p (zT db p)) v=O then(v,0)else((0,0,[]),6)
theorem aP.key(h:aP db p)(v:zq):zvP p (zT db p) v=M ((Hr db p v).1,(Hr db p v).2,()):=by
 obtain⟨n,o⟩:=CM h.go;have b:zL 0 (zT db p).length=O:=zx (i:=0) (qu h.go.two).1;have d:Y (zT db p) (Z 0) (Q zl)=fa db p:=rfl;obtain⟨y,w⟩:=Ph (x:=fa db p) v h.rel.may;by_cases m:p.1=ic
 .have l:(p.1==ic)=O:=by simpa using m
  have z:dV p (zT db p)=p.t.2:=by
   unfold dV;rw[zh (by rw[m];decide),zf m]
  unfold Hr;rw[zf m];by_cases s:LT.lt (α:=Int) (ah (λr=>bK r (fa db p).1.2.2.1 v) (fa db p).2 0) 0
  .simp only[zf s];refine zQ (r:=(tup [agg [L 0,L 0,I []],L 6],[])) ?_ rfl;simp only[V2,zo,bh,Q8,n,o,l,b,d,y,w,ib,zD,zj,zm];rw[zf (zB s)]
  .simp only[zh s];rcases gR (λr=>bK r (fa db p).1.2.2.1 v) (fa db p).2 0 with e|⟨B,C⟩
   .rw[e]at s;omega
   .obtain⟨k,E⟩:∃k:Nat,ah (λr=>bK r (fa db p).1.2.2.1 v) (fa db p).2 0=(k:Int):=⟨_,(Int.toNat_of_nonneg B).symm⟩;rw[E]at s C w|-;have a:k<(fa db p).2.length:=by omega
    have g:=(h.inn _ (bC a)).1;rw[z]at g;obtain⟨q,D⟩:=h.hasC (zP p.t.2 (fa db p).2[k]);have A:T ((k:Int)<0)=S:=by simp
    rw[zX _ _ a];by_cases c:HB (bQ p (zT db p)) (zP p.t.2 (fa db p).2[k])=O
    .rw[zf c];refine zQ (r:=(tup [agg [L (zP p.t.2 (fa db p).2[k]).1,L (zP p.t.2 (fa db p).2[k]).2.1,I (zP p.t.2 (fa db p).2[k]).2.2],L 0],[])) ?_ rfl;simp only[V2,zo,bh,Q8,n,o,l,b,d,y,w,A,zx a,zX _ _ a,g,h.all,q,c,ib,cj,zD,zj,zm]
    .rw[zh c];have j:=Bool.eq_false_iff.2 c;refine zQ (r:=(tup [agg [L 0,L 0,I []],L 6],[])) ?_ rfl;simp only[V2,zo,bh,Q8,n,o,l,b,d,y,w,A,zx a,zX _ _ a,g,h.all,q,j,ib,dp,zD,zj,zm]
 .have l:(p.1==ic)=S:=by simpa using m
  unfold Hr;rw[zh m];obtain⟨q,D⟩:=h.hasC v;by_cases c:HB (bQ p (zT db p)) v=O
  .rw[zf c];refine zQ (r:=(tup [agg [L v.1,L v.2.1,I v.2.2],L 0],[])) ?_ rfl;simp only[V2,zo,bh,Q8,n,o,l,h.all,q,c,ib,cj,zD,zj,zm]
  .rw[zh c];have j:=Bool.eq_false_iff.2 c;refine zQ (r:=(tup [agg [L 0,L 0,I []],L 6],[])) ?_ rfl;simp only[V2,zo,bh,Q8,n,o,l,h.all,q,j,ib,dp,zD,zj,zm]
theorem aP.mine(h:aP db p)(m:p.1≠qD){row:zr}(c:row∈(fa db p).2)(j:(zP (dV p (zT db p)) row).1≠0):
  Hr db p (zP (fa db p).1.2.2.1 row)=(zP (dV p (zT db p)) row,0):=by
 have b:=h.has c j;unfold Hr;by_cases a:p.1=ic
 .have x:dV p (zT db p)=p.t.2:=by
   unfold dV;rw[zh (by rw[a];decide),zf a]
  rw[zf a];obtain⟨k,n,d,g⟩:=h.rel.find c;simp only[d];rw[zh W,zX _ _ n,g,<-x,zf ((h.hasC _).2.2 b)]
 .rw[zh a];have l:p.1=dI:=by
   rcases h.mig with e|e|e
   .exact e
   .exact zA e a
   .exact zA e m
  have x:dV p (zT db p)=(fa db p).1.2.2.1:=by
   unfold dV;rw[zf l];rfl
  rw[x]at b|-;rw[zf ((h.hasC _).2.2 b)]
end
def Fb(a b:zq):Bool:=!Q0 (GT.gt (α:=Int) (aF a b) 0)
theorem AL(a:zq):aF a a=(0:Int):=by unfold aF;show Je [ui (aj a).1 (aj a).1,lq (aj a).2.1 (aj a).2.1,pE (aj a).q (aj a).q]=(0:Int);rw[<-Rs,zf sw]
variable {h:zq}
theorem iI{a:zq}(c:be a=O)(d:be h=O):Fb a h=O↔(po a h\/a=h):=by
 unfold Fb po;simp only[uB,ei];constructor
 .intro x;by_cases b:aF a h=(0:Int)
  .exact .inr (Fu c d b)
  .exact .inl (Int.lt_iff_le_and_ne.2 ⟨Int.not_lt.1 x,b⟩)
 .rintro(x|rfl)
  .exact Int.not_lt.2 (Int.le_of_lt x)
  .rw[AL];exact Int.lt_irrefl _
theorem AE{a c:zq}(b:be a=O)(d:be h=O)(e:be c=O)(x:Fb a h=O)(g:Fb h c=O):Fb a c=O:=by
 rw[iI b d]at x;rw[iI d e]at g;rw[iI b e];rcases x with x|rfl
 .rcases g with g|rfl
  .exact .inl (dZ x g)
  .exact .inl x
 .exact g
theorem AD{a:zq}(b:be a=O)(c:be h=O)(x:¬Fb a h=O):Fb h a=O:=by
 rw[iI b c]at x;rw[iI c b];simp only[not_or]at x;rcases ma b c x.1 with e|e
 .exact zA e x.2
 .exact .inl e
section
variable {α:Type} (k:α->J R)
def Ch(row:α)(l:List α):List α:=l.filter (λx=>Fb (k x) (k row))++row::l.filter (λx=>!Fb (k x) (k row))
def jp(l:List α):List α:=l.foldl (λacc row=>Ch k row acc) []
def qy(l:List α):Prop:=l.Pairwise λa b=>Fb (k a) (k b)=O
variable {k}
theorem Yb{row:α}:∀{l:List α},(∀x∈row::l,be (k x)=O)->qy k l->∃m,m<=X l/\l.filter (λx=>Fb (k x) (k row))=l.take m/\l.filter (λx=>!Fb (k x) (k row))=l.drop m/\
   (∀i(h:i<X l),i<m->Fb (k l[i]) (k row)=O)/\(∀i(h:i<X l),m<=i->Fb (k l[i]) (k row)=S)
 |[],_,_=>⟨0,zM _,rfl,rfl,λi h=>zA h (Nat.not_lt_zero i),λi h=>zA h (Nat.not_lt_zero i)⟩
 | a::r,hm,hr=>by
  have⟨g,j⟩:=List.pairwise_cons.1 hr;cases d:Fb (k a) (k row)with
  | true=>
   have⟨m,q,o,s,w,y⟩:=Yb (row:=row) (l:=r) (λx b=>hm x (by simp at b|-;rcases b with h|h<;>simp[h])) j;refine⟨m+1,by simpa using q,by simp[d,o],by simp[d,s],λi h e=>?_,λi h e=>?_⟩
   .cases i with
    |zero=>exact d
    |succ i=>exact w i (by simpa using h) W
   .cases i with
    |zero=>omega
    |succ i=>exact y i (by simpa using h) W
  | false=>
   have c:∀x∈r,Fb (k x) (k row)=S:=λx b=>by
    cases n:Fb (k x) (k row)with
    |false=>rfl
    |true=>rw[AE (hm a sw) (hm x (by simp[b])) (hm row sw) (g x b) n]at d;cases d
   refine⟨0,sw,?_,?_,λi h e=>by omega,λi h _=>?_⟩
   .rw[List.take_zero,List.filter_eq_nil_iff];intro x b;rcases bZ.1 b with rfl|b
    .rw[d];simp
    .rw[c x b];simp
   .rw[List.drop_zero,List.filter_eq_self];intro x b;rcases bZ.1 b with rfl|b
    .rw[d];rfl
    .rw[c x b];rfl
   .cases i with
    |zero=>exact d
    |succ i=>exact c _ (bC _)
theorem IZ(row:α)(l:List α):(Ch k row l).Perm (row::l):=by unfold Ch;refine(List.perm_middle).trans (List.Perm.cons _ ?_);exact List.filter_append_perm _ _
theorem eJ(l:List α):(jp k l).Perm l:=by
 have x:∀(l acc:List α),(l.foldl (λacc row=>Ch k row acc) acc).Perm (l++acc):=by
  intro l
  induction l with
  |nil=>intro acc;exact List.Perm.refl _
  |cons a r b=>intro acc;exact(b _).trans ((List.Perm.append_left r (IZ a acc)).trans List.perm_middle)
 have h:=x l [];rw[wo]at h;exact h
theorem I0{row:α}{l:List α}(a:∀x∈row::l,be (k x)=O)(h:qy k l):qy k (Ch k row l):=by
 unfold Ch qy;rw[List.pairwise_append,List.pairwise_cons];refine⟨h.filter _,⟨λx d=>?_,h.filter _⟩,λx d y e=>?_⟩
 .have⟨c,b⟩:=List.mem_filter.1 d;exact AD (a x (by simp[c])) (a row sw) (by simpa using b)
 .have⟨c,b⟩:=List.mem_filter.1 d;rcases bZ.1 e with rfl|e
  .exact b
  .have⟨g,j⟩:=List.mem_filter.1 e;exact AE (a x (by simp[c])) (a row sw) (a y (by simp[g])) b (AD (a y (by simp[g])) (a row sw) (by simpa using j))
end
def uy(k:Int)(r:zr):Prop:=zL k (X r)=O/\mf (zP k r)/\be (zP k r)=O
section
variable {t:J ab} {rows acc:List (List (J R))} {i:Nat} {z1:zp uj}
theorem vJ{α:Type}(l:List α)(d:α){i:Nat}(h:i<X l):l.getD i d=l[i]:=zX l d h
theorem Yf(l:DA t)(e:dM t=O)(m:i<X rows)(g:uy t.q.1 rows[i])(s:∀r∈acc,uy t.q.1 r)(A:X acc<=1000000){n:Nat}
  (w:∀j(h:j<X acc),n<=j->Fb (zP t.q.1 acc[j]) (zP t.q.1 rows[i])=S):
  ∀d,n+d<=X acc->zH Ck d (.h6 (i:Int) ((n+d:Nat):Int) ((t,rows),()) z1 (t,acc,())) (.h6 (i:Int) (n:Int) ((t,rows),()) z1 (t,acc,()))
 |0,_=>zH.refl _
 | d+1,C=>by
  refine zH.trans (b:=d) (a:=1) ?_ (Yf l e m g s A w d W);have c:n+d<X acc:=by omega
  have⟨y,z,D⟩:=s _ (bC c);have x:=w (n+d) c W;unfold Fb at x;rw[Bool.not_eq_false']at x;have o:Γ Δ (((n+(d+1):Nat):Int)-1)=((n+d:Nat):Int):=gQ (n+d) um;have B:T (((n+(d+1):Nat):Int)>0)=O:=by simp;omega
  refine zH.of ?_
  simp only[Ck,Q8,zo,bh,B,o,aI,zx c,zx m,vJ _ _ c,vJ _ _ m,aH,zB c,o8 l e y,o8 l e g.1,
   tN l e y,tN l e g.1,vV z.q g.2.1.q,AR z.q g.2.1.q,x,Bool.and_true,zj]
theorem zom(g:DA t)(d:dM t=O)(a:i<X rows)(hn:X rows<=1000000)(b:uy t.q.1 rows[i])(j:∀r∈acc,uy t.q.1 r)(hl:X acc<=1000000)(n:qy (zP t.q.1) acc):
  zH Ck (X acc+2) (.h3 (i:Int) ((t,rows),()) z1 (t,acc,())) (.h3 ((i+1:Nat):Int) ((t,rows),()) z1 (t,Ch (zP t.q.1) rows[i] acc,())):=by
 have⟨m,F,m2,m3,m4,m5⟩:=Yb (k:=zP t.q.1) (row:=rows[i]) (l:=acc) (λx o=>by
  rcases bZ.1 o with rfl|o
  .exact b.q
  .exact(j x o).q) n
 have H:zH Ck 1 (.h3 (i:Int) ((t,rows),()) z1 (t,acc,())) (.h6 (i:Int) ((m+(X acc-m):Nat):Int) ((t,rows),()) z1 (t,acc,())):=zH.of (by
  rw[Nat.add_sub_cancel' F];simp only[Ck,Q8,zN a,zj])
 have P:=Yf (z1:=z1) g d a b j hl m5 (X acc-m) W;have U:zH Ck 1 (.h6 (i:Int) (m:Int) ((t,rows),()) z1 (t,acc,())) (.h3 ((i+1:Nat):Int) ((t,rows),()) z1 (t,Ch (zP t.q.1) rows[i] acc,())):=zH.of (by
  have s:T (0<=(m:Int))=O:=by simp
  have w:T ((m:Int)<=(X acc:Int))=O:=by simpa using F
  have y:T ((X acc:Int)<=(X acc:Int))=O:=by simp
  have z:Qg (m-Z 0) (List.drop (Z 0) acc)=acc.take m:=by simp
  have A:Qg (X acc-m) (List.drop m acc)=acc.drop m:=MY sw;have G:=zu i um;have l1:T ((acc.take m).length<=1073741824)=O:=by simp;omega
  have D:T ((acc.take m).length+[rows[i]].length<=1073741824)=O:=by simp;omega
  have E:T ((acc.take m++[rows[i]]).length+(acc.drop m).length<=1073741824)=O:=by simp;omega
  have e:Ch (zP t.q.1) rows[i] acc=acc.take m++[rows[i]]++acc.drop m:=by unfold Ch;rw[m2,m3];simp
  rw[e];cases m with
  | zero=>
   simp only[Ck,Q8,zo,bh,show T (((0:Nat):Int)>0)=S from rfl,aJ,zx a,vJ _ _ a,aH,z,A,l1,D,E,s,w,y,G,Bool.and_true,zD,zj,zm];rfl
  | succ m=>
   have c:m<X acc:=by omega
   have⟨B,C,k3⟩:=j _ (bC c);have h:=m4 m c W;unfold Fb at h;rw[uB]at h;have hp:T (((m+1:Nat):Int)>0)=O:=zB W;have w1:=gQ m um
   simp only[Ck,Q8,zo,bh,hp,w1,aI,zx a,zx c,vJ _ _ a,vJ _ _ c,aH,zB c,o8 g d B,o8 g d b.1,tN g d B,tN g d b.1,vV C.q b.2.1.q,AR C.q b.2.1.q,h,
    z,A,l1,D,E,s,w,y,G,Bool.and_true,zD,zj,zm]
   rfl)
 exact((H.trans P).trans U).mono W
theorem WH(w:DA t)(n:rows≠[]->dM t=O)(o:X rows<=1000)(j:∀r∈rows,uy t.q.1 r):C7 (t,rows)=M ((t,jp (zP t.q.1) rows),()):=by
 have s:(zs3 (t,rows)).val=M (.inl (.h3 ((0:Nat):Int) ((t,rows),()) ([],0,[],0,0,[],[],()) (t,[],()))):=rfl;have b:∀i,i<=X rows->(jp (zP t.q.1) (rows.take i)).length=i:=λi d=>by rw[(eJ _).length_eq];simp;omega
 have c:∀i,∀r∈jp (zP t.q.1) (rows.take i),r∈rows:=λi r h=>List.mem_of_mem_take ((eJ _).mem_iff.1 h)
 have a:∀i(h:i<X rows),jp (zP t.q.1) (rows.take (i+1))=Ch (zP t.q.1) rows[i] (jp (zP t.q.1) (rows.take i)):=λi h=>by
  unfold jp;rw[bF h,List.foldl_append];rfl
 have e:∀i,i<=X rows->qy (zP t.q.1) (jp (zP t.q.1) (rows.take i)):=by
  intro i
  induction i with
  |zero=>intro _;exact .nil
  | succ i y=>
   intro d;rw[a i d];refine I0 (λx l=>?_) (y W);rcases bZ.1 l with rfl|l
   .exact(j _ (bC d)).q
   .exact(j x (c i x l)).q
 have m:=zH.all (t:=Ck) 1002 (λi=>.h3 (i:Int) ((t,rows),()) ([],0,[],0,0,[],[],()) (t,jp (zP t.q.1) (rows.take i),())) (X rows) λi d=>by
  rw[a i d];exact(zom w (n (List.ne_nil_of_length_pos W)) d W (j _ (bC d)) (λr h=>j r (c i r h)) (by rw[b i W];omega) (e i W)).mono (by rw[b i W];omega)
 simp only[gE]at m;have g:∃r,zU Ck 1 (.h3 (X rows:Int) ((t,rows),()) ([],0,[],0,0,[],[],()) (t,jp (zP t.q.1) rows,())) r/\aZ r.2 [zl] r.1=M ((t,jp (zP t.q.1) rows),()):=by
  refine⟨_,zU.of (by
   simp only[Ck,Q8,zK,zD,zm];rfl),?_⟩
  show M (((t.1,t.2.1,t.q.1,t.r.1,t.t.1,zt t.u),jp (zP t.q.1) rows),())=_;rw[zo]
 have⟨r,z,A⟩:=g;have:X rows*1002<=1000*1002:=gD _ o;exact zz s (m.ends z) W A
theorem za8(b:DA t)(h:rows≠[]->dM t=O)(x:X rows<=1000)(a:∀r∈rows,uy t.q.1 r):Lq (t,rows)=O/\RW (t,rows)=(t,jp (zP t.q.1) rows):=by have:=WH b h x a;exact⟨by unfold Lq;rw[this];rfl,by unfold RW;rw[this];rfl⟩
end
structure lz (db:zS) (p:aA):Prop where
 wf:DA p.r.1
 fr:My (fa db p)
 few:X p.t.1<=1000
 copy:p.1=dI->(∀c∈p.t.1,zL c (fa db p).1.2.1.length=O)/\∃(k:Nat)(h:k<X p.t.1),p.r.1.q.1=(k:Int)/\p.t.1[k]=(fa db p).1.q.1
 join:p.1=ic->p.r.1.q.1=(fa db p).1.q.1/\∃y:ae,zT db p=[fa db p,y]/\ef y/\My y/\(∀c∈p.t.1,zL c (X y.1.2.1)=O)/\∀row∈(fa db p).2,(zP p.u row).1≠0->iu y y.1.q.1 (zP p.u row)=O
 group:p.1=qD->p.r.1.q.1=0/\∃a b,p.t.1=[a,b]/\zL a (fa db p).1.2.1.length=O/\zL b (fa db p).1.2.1.length=O
theorem My.cut{q:zJ->Bool}(h:My x):My (jS q x):=
 ⟨⟨h.t.name,h.t.cols,h.t.ncols,h.t.nuq,bc (List.length_filter_le _ _) h.t.nrf,λf a=>h.t.refs f (List.mem_filter.1 a).1,h.t.chk⟩,h.rows,h.vals⟩
theorem FA{a:zJ}(h:¬LT.lt (α:=Int) (zZ t a) 0):zL (zZ t a) (X t.2.1)=O:=td ⟨W,(iS h).2⟩
theorem S1(h:DA t)(n:List zJ):∀c∈e7 t n,X (c:cH).1<=1000000:=by
 intro c a;obtain⟨s,_,rfl⟩:=bn.1 a;by_cases x:Z (zZ t s)<X t.2.1
 .rw[bz,af x];exact h.cols _ (bC x)
 .rw[bz,fg W];exact aG _
theorem zaE{k:Int}{n j:Nat}(h:j∈Fv k n):j<n:=by unfold Fv at h;simpa using(List.mem_filter.1 h).1
theorem znu(F:∀x∈db,My x)(hp:(bp db s).1=0)(B:yD s):lz db (bp db s).2:=by
 have⟨hm,h1,hb,U,x1,z⟩:=K0 hp;have hB:=(jQ λx C=>(F x C).short).1 hb;have o:=kO h1;have y:(cT db s).1=0:=by rw[<-z];exact hp
 have⟨H,f2,f3⟩:=DI y;rw[z];have h0:LE.le (α:=Int) 0 (ak db s.q.1):=U _ (by unfold ce;split<;>simp);have C:fa db (cT db s).2=jS (aL (ce s.q.1 (cR s))) (aQ db s.q.1):=by
  unfold fa zT;rw[f2,f3];have:∃r,ce s.q.1 (cR s)=s.q.1::r:=by unfold ce;split<;>exact⟨_,rfl⟩
  have⟨r,e⟩:=this;rw[e];rfl
 have hF:=F _ (kg h0).1;have D:My (fa db (cT db s).2):=by rw[C];exact hF.cut
 have E:DA (au db s.q.1):=hF.t;rcases hm with m|m|m
 .have e:cT db s=jn (vp (au db s.q.1) s.r.1) (s.1,s.q.1,s.p,(s.2.1,e7 (au db s.q.1) s.r.1,iB (kd (au db s.q.1) s.r.1) (au db s.q.1).q.1,[],[],s.x.1),kd (au db s.q.1) s.r.1,0):=by
   unfold cT;rw[zf (by simp[m])]
  have e0:=y;rw[e]at e0;have⟨g,n⟩:=jo e0;unfold vp at g;split at g;rotate_left
  next h=>exact zA g h
  rename_i G;split at g
  .cases g
  rename_i hk;have l:=rT G;refine⟨?_,D,(by rw[e,n];show(kd _ _).length<=_;unfold kd;rw[dc];have:=B.sh.names.1;omega),?_,(by rw[H,m];intro h;cases h),(by rw[H,m];intro h;cases h)⟩
  .rw[e,n];exact⟨bc B.sh.table W,S1 E _,by show(e7 _ _).length<=_;unfold e7;rw[dc];have:=B.sh.names.1;omega,aG _,aG _,λf P=>(by cases P),B.chk⟩
  .intro _;rw[C,e,n];refine⟨λc d=>?_,?_⟩
   .obtain⟨a,ha,rfl⟩:=bn.1 d;exact FA (l a ha)
   .rcases Oa (kd (au db s.q.1) s.r.1) (au db s.q.1).q.1 with⟨j,A,q1,q2,_⟩|⟨q1,_⟩
    .exact⟨j,A,q1,q2⟩
    .exact zA (by rw[q1];decide) hk
 .have e:cT db s=jn (gK (au db s.q.1) (eV db s.p) s.u.1 s.p)
     (s.1,s.q.1,s.p,(s.2.1,(au db s.q.1).2.1++jv (eV db s.p) (X (eV db s.p).2.1),(au db s.q.1).q.1,[],[],s.x.1),
      nR (eV db s.p).q.1 (X (eV db s.p).2.1),zZ (au db s.q.1) s.u.1):=by
   unfold cT;rw[zh (by simp[m]),zf (by simp[m])]
  have e0:=y;rw[e]at e0;have⟨g,n⟩:=jo e0;have hr:=I2 o m;have h3:ce s.q.1 (cR s)=[s.q.1,cR s]:=by unfold ce;rw[zh (by simpa using hr)]
  have h4:LE.le (α:=Int) 0 (ak db (cR s)):=U _ (by rw[h3];simp);have x0:eV db s.p=(aQ db (cR s)).1:=by
   unfold eV;rw[zh hr];rfl
  have hU:=F _ (kg h4).1;rw[x0]at e g n;refine⟨?_,D,(by rw[e,n];show(nR _ _).length<=_;unfold nR;rw[dc];exact bc (mB _ _) hU.t.ncols),(by rw[H,m];intro h;cases h),?_,(by rw[H,m];intro h;cases h)⟩
  .rw[e,n];refine⟨bc B.sh.table W,λc d=>?_,?_,aG _,aG _,λf P=>(by cases P),B.chk⟩
   .rcases cX.1 d with d|d
    .exact E.cols c d
    .obtain⟨j,A,rfl⟩:=bn.1 d;have A:=zaE A;rw[bz,af A];exact hU.t.cols _ (bC A)
   .show(_++jv _ _).length<=1000;unfold gK at g;split at g
    .cases g
    split at g;rotate_left
    .cases g
    split at g
    .cases g
    rename_i h9;have:=mB (aQ db (cR s)).1.q.1 (aQ db (cR s)).1.2.1.length;unfold jv;rw[jK,dc];omega
  .intro _;have hs:zT db (cT db s).2=[fa db (cT db s).2,jS (aL (ce s.q.1 (cR s))) (aQ db (cR s))]:=by
    rw[C];unfold zT;rw[f2,f3,h3];rfl
   refine⟨?_,jS (aL (ce s.q.1 (cR s))) (aQ db (cR s)),hs,(hB.rels _ (kg h4).1).cut,hU.cut,?_,?_⟩
   .rw[C,e,n];rfl
   .rw[e,n];intro c d;obtain⟨j,A,rfl⟩:=bn.1 d;exact zx (zaE A)
   .have h8:((cT db s).2).u=zZ (au db s.q.1) s.u.1:=by rw[e,n]
    have h6:ka (au db s.q.1).t.1 (zZ (au db s.q.1) s.u.1,cR s)=O:=by
     unfold gK at g;split at g
     .cases g
     split at g
     .assumption
     .cases g
    rw[C,h8];exact(hB.bound _ (kg h0).1 _ ((pN _ _).1 h6)).2
 .have e:cT db s=jn (rH (au db s.q.1) s.r.1) (s.1,s.q.1,s.p,(s.2.1,Ar (au db s.q.1) s.r.1,0,[],[],s.x.1),kd (au db s.q.1) s.r.1,0):=by
   unfold cT;rw[zh (by simp[m]),zh (by simp[m]),zf (by simp[m])]
  have e0:=y;rw[e]at e0;have⟨g,n⟩:=jo e0;have G:gT (au db s.q.1) s.r.1=0:=by
   unfold rH at g;split at g
   .assumption
   .exact g
  have l:=rT G;have h2:=kG o m;refine⟨?_,D,(by rw[e,n];show(kd _ _).length<=_;unfold kd;rw[dc];omega),(by rw[H,m];intro h;cases h),(by rw[H,m];intro h;cases h),?_⟩
  .rw[e,n];refine⟨bc B.sh.table W,λc d=>?_,(by show(2:Nat)<=1000;omega),aG _,aG _,λf P=>(by cases P),B.chk⟩;have w:=S1 E s.r.1;have hl:(e7 (au db s.q.1) s.r.1).length=2:=by unfold e7;rw[dc];exact h2
   generalize h5:e7 (au db s.q.1) s.r.1=cs at w hl
   match cs,hl with
   | [a,b],_=>
    have d:c∈Ar (au db s.q.1) s.r.1:=d;unfold Ar at d;rw[h5]at d;rcases bZ.1 d with rfl|d
    .exact w a sw
    .rw[fh]at d;subst d;exact w b sw
  .intro _;rw[C,e,n]
   match h7:s.r.1,h2 with
   | [a,b],_=>
    rw[h7]at l;exact⟨rfl,zZ (au db s.q.1) a,zZ (au db s.q.1) b,rfl,FA (l a sw),FA (l b sw)⟩
def eqR(a b:zr):Bool:=@decide (a=b) (Classical.propDecidable _)
theorem CB{b:zr}:eqR a b=O↔a=b:=by unfold eqR;exact@decide_eq_true_iff _ (Classical.propDecidable _)
theorem WD(a b:zr)(P:X a<=1000000):K9 a b=O/\RL a b=eqR a b:=by
 have:CT a b=some (eqR a b,()):=by
  by_cases C:X a=X b
  .have D:(zeC a b).val=M (.inl (.h4 a b ((0:Nat):Int))):=by
    simp only[zeC,Q8,C,ib,zD,zm];rfl
   have l:∀k,k<=X a->(∀i(h:i<k),a[i]?=b[i]?)->zH WR (k*1) (.h4 a b ((0:Nat):Int)) (.h4 a b (k:Int)):=λk z A=>
    zH.all (t:=WR) 1 (λi=>.h4 a b (i:Int)) k λi y=>zH.of (by
     have c:i<X a:=by omega
     have g:i<X b:=by omega
     have e:=A i y;rw[af c,af g]at e;have x:Co a[i] b[i]=O:=jF.2 (Option.some.inj e);unfold Co at x;simp only[WR,Q8,zN c,zx c,zx g,zj,zX _ _ c,zX _ _ g,x,cj,zD,zm];rw[zu i um])
   by_cases o:a=b
   .rw[CB.2 o];refine zz D ((l (X a) (zM _) (λi _=>by rw[o])).ends (zU.of (r:=(.kb O,[])) ?_)) W rfl;simp only[WR,Q8,zK,zD,zm]
   .have s:eqR a b=S:=Bool.eq_false_iff.2 λh=>o (CB.1 h)
    rw[s];have w:∃i,a[i]?≠b[i]?:=kX λB=>o (ox λi=>kX λh=>B ⟨i,h⟩)
    obtain⟨k,z,G⟩:∃k,a[k]?≠b[k]?/\∀i,i<k->a[i]?=b[i]?:=by
     have⟨n,A⟩:=w
     induction n using Nat.strongRecOn with
     | ind n H=>
      by_cases h:∃m,m<n/\a[m]?≠b[m]?
      .have⟨m,E,q⟩:=h;exact H m E q
      .exact⟨n,A,λi y=>kX λq=>h ⟨i,y,q⟩⟩
    have d:k<X a:=by
     refine kX λh=>z ?_
     rw[fg W,fg W]
    have j:k<X b:=by omega
    have x:Co a[k] b[k]=S:=Bool.eq_false_iff.2 λh=>z (by rw[af d,af j,jF.1 h])
    unfold Co at x;refine zz D ((l k W G).ends (zU.of (r:=(.kb S,[])) ?_)) W rfl;simp only[WR,Q8,zN d,zx d,zx j,zj,zX _ _ d,zX _ _ j,x,dp]
  .have s:eqR a b=S:=Bool.eq_false_iff.2 λh=>C (by rw[CB.1 h])
   have F:((X a:Int)!=(X b:Int))=O:=by simp;omega
   rw[s];refine zQ (r:=(.kb S,[])) ?_ rfl;simp only[zeC,Q8,F,zj]
 exact⟨by unfold K9;rw[this];rfl,by unfold RL;rw[this];rfl⟩
theorem O4{l:List zr}(d:X l<=1000000)(a:∀r∈l,X r<=1000000):Lo l l=O/\RV l l=O:=by
 have:C4 l l=M (O,()):=by
  have b:(zmx l l).val=M (.inl (.h4 l l ((0:Nat):Int))):=by
   simp only[zmx,Q8,ib,zD,zm];rfl
  have x:=zH.all (t:=zfT) 1 (λi=>.h4 l l (i:Int)) (X l) λi h=>zH.of (by
   have⟨c,q⟩:=WD l[i] l[i] (a _ (bC h));rw[CB.2 rfl]at q;simp only[zfT,Q8,zN h,zx h,zj,zX _ _ h,c,q,cj,zD,zm];rw[zu i um])
  refine zz b (x.ends (zU.of (r:=(.kb O,[])) ?_)) W rfl;simp only[zfT,Q8,zK,zD,zm]
 exact⟨by unfold Lo;rw[this];rfl,by unfold RV;rw[this];rfl⟩
section
variable {db:List (J zl)} {p:J ar}
end
def jw(p:aA)(row:zr):zr:=List.map (λc=>zP c row) p.t.1
def P1(p:aA)(s:zq)(row:zr):zq:=if(zP (Y p.t.1 (Z 1) (Q zk)) row).1=0 then s else qO s (zP (Y p.t.1 (Z 1) (Q zk)) row)
def GZ(src:zS):ae:=src.getD (Z 1) (Q zl)
def uM(p:aA)(src:zS)(v:zq)(row:zr):zr:=
 if p.1=ic then row++jw p (Y (GZ src).2 (ah (λr=>bK r (GZ src).1.q.1 v) (GZ src).2 0).toNat (Q ze.sl))else jw p row
def un(p:aA)(src:zS)(v:zq)(rows:List zr):List zr:=
 if p.1=qD then(ite (rows=[]) [] [[v,rows.foldl (P1 p) (1,0,[])]])else rows.map (uM p src v)
section
variable {db:List (J zl)} {p:J ar} {l1:List (J zl)} {rows acc:List (List (J R))} {v:J R}
end
theorem OJ(a:Int)(rows:List zr):∀h:zr,h.Nodup->(∀u∈h,u.1≠0)->
  (h.map λu=>(rows.filter (Rn a u)).length).sum+(rows.filter λrow:zr=>!h.any λu:zq=>Rn a u row).length=X rows
 |[],_,_=>by simp
 | u :: h,hn,h0=>by
  rw[List.nodup_cons]at hn;have b:=OJ a rows h hn.2 λx m=>h0 x (nc _ m)
  rw[ew,List.sum_cons];have n:(rows.filter (Rn a u)).length+(rows.filter λrow:zr=>!(u::h).any λu:zq=>Rn a u row).length=(rows.filter λrow:zr=>!h.any λu:zq=>Rn a u row).length:=by
   clear b
   induction rows with
   |nil=>rfl
   | cons row r b=>
    simp only[List.filter_cons,List.any_cons];cases d:Rn a u row with
    | true=>
     have g:(h.any λu:zq=>Rn a u row)=S:=by
      rw[List.any_eq_false];intro v l j;have e:=(nu.1 d).1;have c:=(nu.1 j).1;exact hn.1 (by rw[<-e,c];exact l)
     simp only[g,Bool.or_false,cj,dp,zj,zD,zm,fE]at b|-;simp only[List.any_cons]at b;omega
    | false=>
     simp only[Bool.false_or,zD,zm];simp only[List.any_cons]at b;cases(h.any λu:zq=>Rn a u row)with
     |true=>simpa using b
     | false=>
      simp only[dp,zj,fE];omega
  omega
section
variable {db:List (J zl)} {p:J ar}
theorem aP.rise(h:aP db p):(bQ p (zT db p)).Pairwise po:=(ws λ_ a=>h.may a).1
theorem aP.nodup(h:aP db p):(bQ p (zT db p)).Nodup:=by unfold List.Nodup;exact h.rise.imp λ{a b} x(e:a=b)=>eD (a:=b) (by rw[e]at x;exact x)
end
def B6(db:zS)(p:aA)(v:zq):List zr:=(fa db p).2.filter (Rn (dV p (zT db p)) v)
def de(db:zS)(p:aA)(v:zq):List zr:=(un p (zT db p) v (B6 db p v)).filter λr=>dj p.r.1 r==(0:Int)
theorem rt(h:zL c (X row)=O):zP c row∈row:=by
 have x:c.toNat<X row:=by
  unfold zL at h;simp only[aN,aY]at h;omega
 unfold zP;rw[bz,af x];exact bC x
theorem NS{p:aA}:∀(l:List zr)(s:zq),mf s->mf (l.foldl (P1 p) s)
 |[],_,h=>h
 | a::r,s,h=>NS r _ (by
  unfold P1;split
  .exact h
  .exact MU _ _)
section
variable {db:List (J zl)} {p:J ar} {v:J R}
theorem wg{row:zr}(h:row∈B6 db p v):row∈(fa db p).2/\zP (dV p (zT db p)) row=v/\v.1≠0:=⟨(List.mem_filter.1 h).1,nu.1 (List.mem_filter.1 h).2⟩
theorem Rx:(un p (zT db p) v (B6 db p v)).length<=(B6 db p v).length:=by
 unfold un;split
 .split
  .simp
  next h=>have:=List.length_pos_iff.2 h;simp;omega
 .simp
theorem zgc(_:aP db p)(m:lz db p)(d:p.1=ic){row:zr}(l:row∈B6 db p v):
  ∃y:ae,zT db p=[fa db p,y]/\ef y/\My y/\(∀c∈p.t.1,zL c (X y.1.2.1)=O)/\Y (GZ (zT db p)).2 (ah (λr=>bK r (GZ (zT db p)).1.q.1 v) (GZ (zT db p)).2 0).toNat (Q ze.sl)∈y.2:=by
 have⟨_,y,g,z,B,w,A⟩:=m.join d;have⟨o,j,s⟩:=wg l;have a:dV p (zT db p)=p.u:=by unfold dV;rw[zh (by rw[d];decide),zf d]
 have n:GZ (zT db p)=y:=by rw[g];rfl
 have x:=A _ o (by rw[<-a,j];exact s);rw[<-a,j]at x;refine⟨y,g,z,B,w,?_⟩;rw[n];rcases eL (λr=>bK r y.1.q.1 v) y.2 0 with⟨e,_⟩|⟨k,b,e,C,_⟩
 .unfold iu at x;rw[e]at x;exact zA x (by decide)
 .rw[eI]at e;rw[e,zX _ _ b];exact bC b
theorem znv(h:aP db p)(m:lz db p):∀r∈un p (zT db p) v (B6 db p v),∀x∈r,mf x:=by
 intro r d x b;unfold un at d;split at d
 .split at d
  .cases d
  .rename_i n;rw[fh]at d;subst d;rcases bZ.1 b with rfl|b
   .have⟨row,a⟩:=List.exists_mem_of_ne_nil _ n;have⟨q,o,_⟩:=wg a;rw[<-o];exact m.fr.vals _ q _ (rt (h.inn _ q).1)
   .rw[fh]at b;subst b;exact NS _ _ ⟨by decide,by decide,aG _⟩
 .rename_i w;obtain⟨row,a,rfl⟩:=bn.1 d;have⟨q,o,_⟩:=wg a;unfold uM at b;split at b
  .rename_i l;have⟨y,_,A,B,z,s⟩:=zgc h m l a;rcases cX.1 b with b|b
   .exact m.fr.vals _ q _ b
   .obtain⟨c,g,rfl⟩:=bn.1 b;refine B.vals _ s _ (rt ?_);rw[(cL (A.fits _ s)).1];exact z c g
  .rename_i l;obtain⟨c,g,rfl⟩:=bn.1 b;have j:p.1=dI:=by
    rcases h.mig with e|e|e
    .exact e
    .exact zA e l
    .exact zA e w
   refine m.fr.vals _ q _ (rt ?_);rw[(h.inn _ q).2];exact(m.copy j).1 c g
theorem Zd:(de db p v).length<=(B6 db p v).length:=bc (List.length_filter_le _ _) Rx
theorem EW(h:aP db p)(m:lz db p):∀r∈de db p v,dj p.r.1 r=(0:Int)/\uy p.r.1.q.1 r/\dM p.r.1=O:=by
 intro r j;have⟨e,x⟩:=List.mem_filter.1 j;have x:dj p.r.1 r=(0:Int):=by simpa using x
 have⟨c,d,_⟩:=cL x;have b:dM p.r.1=O:=by
  cases g:dM p.r.1 with
  |true=>rfl
  | false=>
   unfold dj at x;rw[g,zf LY]at x;cases x
 have a:zL p.r.1.q.1 (X r)=O:=by rw[c];exact td (gS b).1
 exact⟨x,⟨a,znv h m r e _ (rt a),d _ (rt a)⟩,b⟩
end
set_option maxRecDepth 100000
section
variable {db:List (J zl)} {p:J ar} {us:List (J R)}
end
section
variable {db:List (J zl)} {p:J ar} {v:J R}
theorem Nf{c:Int}{a b:zr}(h:zL c (X a)=O):zP c (a++b)=zP c a:=by
 have x:c.toNat<X a:=by
  unfold zL at h;simp only[aN,aY]at h;omega
 unfold zP;rw[bz,bz,rl x]
theorem zfB{x:ae}(h:ef x){a b:zr}(l:a∈x.2)(m:b∈x.2)(e:zP x.1.q.1 a=zP x.1.q.1 b):a=b:=by
 have g:=(jE _).1 h.may;have d:∀r∈x.2,(zP x.1.q.1 r).1≠0:=λr y=>by
  have⟨z,_,w⟩:=cL (h.fits r y);refine w _ ?_ g.nn;have A:=g.key.1;have B:=g.key.2;omega
 obtain⟨i,n,rfl⟩:=fO l;obtain⟨j,o,rfl⟩:=fO m;have s:=List.pairwise_iff_getElem.1 h.key;rcases Nat.lt_trichotomy i j with c|c|c
 .exact zA e (s i j n o c (d _ l))
 .subst c;rfl
 .exact zA e.symm (s j i o n c (d _ m))
theorem ZI(h:aP db p)(m:lz db p)(A:v∈bQ p (zT db p)){r:zr}(c:r∈un p (zT db p) v (B6 db p v)):Hr db p (zP p.2.2.2.1.2.2.1 r)=(v,0):=by
 have x:=(h.hasC v).2.2 A;unfold un at c;split at c
 .rename_i n;split at c
  .cases c
  rw[fh]at c;subst c;obtain⟨k0,_⟩:=m.group n;rw[k0];unfold Hr;rw[zh (by rw[n];decide)];show(ite (HB (bQ p (zT db p)) v=O) (v,(0:Int)) _)=_;rw[zf x]
 .rename_i n;obtain⟨row,l,rfl⟩:=bn.1 c;obtain⟨q,w,D⟩:=wg l;unfold uM;split
  .rename_i b;obtain⟨k0,_⟩:=m.join b;have g:=h.rel.keys _ q;rw[k0,Nf g];have a:dV p (zT db p)=p.t.2:=by unfold dV;rw[zh (by rw[b];decide),zf b]
   unfold Hr;rw[zf b];rcases eL (λr=>bK r (fa db p).1.2.2.1 (zP (fa db p).1.2.2.1 row)) (fa db p).2 0 with⟨_,o⟩|⟨k,j,s,o,_⟩
   .have:=o _ q;rw[(sZ g).2 rfl]at this;cases this
   .rw[eI]at s;have z:(fa db p).2[k]=row:=zfB h.rel (bC j) q ((sZ (h.rel.keys _ (bC j))).1 o);simp only[s];rw[zh W,zX _ _ j,z,<-a,w,zf x]
  .rename_i b;have d:p.1=dI:=by
    rcases h.mig with e|e|e
    .exact e
    .exact zA e b
    .exact zA e n
   obtain⟨_,k,j,B,C⟩:=m.copy d;have a:dV p (zT db p)=(fa db p).1.2.2.1:=by unfold dV;rw[zf d];rfl
   have y:zP p.2.2.2.1.2.2.1 (jw p row)=v:=by
    rw[B];unfold zP jw;rw[aH,bz,dN,af j,C,<-a,<-w];rfl
   rw[y];unfold Hr;rw[zh b,zf x]
end
section
variable {db:List (J zl)} {p:J ar} {v:J R}
theorem Oq(h:aP db p)(m:lz db p)(b:¬p.1=qD){row:zr}(d:row∈(fa db p).2):zP p.r.1.q.1 (uM p (zT db p) v row)=zP (fa db p).1.q.1 row:=by
 unfold uM;split
 next a=>have⟨k0,_⟩:=m.join a;rw[k0,Nf (h.rel.keys _ d)]
 .rename_i a;have x:p.1=dI:=by
   rcases h.mig with e|e|e
   .exact e
   .exact zA e a
   .exact zA e b
  have⟨_,k,c,g,j⟩:=m.copy x;rw[g];unfold zP jw;rw[aH,bz,dN,af c,j];rfl
def Bf(k:Int)(l:List zr):Prop:=l.Pairwise λa b=>zP k a≠zP k b
theorem WL{x:ae}(h:ef x):Bf x.1.q.1 x.2:=by
 refine List.pairwise_iff_getElem.2 λi j d l b e=>?_
 have a:=(jE _).1 h.may;have⟨m,_,g⟩:=cL (h.fits _ (bC d));have c:(zP x.1.q.1 x.2[i]).1≠0:=by
  refine g _ ?_ a.nn;have n:=a.key.1;have o:=a.key.2;omega
 exact List.pairwise_iff_getElem.1 h.key i j d l b c e
theorem Rd(h:aP db p)(m:lz db p):Bf p.r.1.q.1 (de db p v):=by
 refine List.Pairwise.sublist List.filter_sublist ?_;unfold un;split
 .split
  .exact .nil
  .exact List.pairwise_singleton _ _
 .rename_i c;refine List.pairwise_map.2 ?_;refine((WL h.rel).sublist (List.filter_sublist (p:=Rn (dV p (zT db p)) v))).imp_of_mem λ{a b} d e x=>?_
  rw[Oq h m c (List.mem_filter.1 d).1,Oq h m c (List.mem_filter.1 e).1];exact x
theorem sD(h:aP db p)(m:lz db p):∀{us:zr},us.Nodup->(∀u∈us,u∈bQ p (zT db p))->Bf p.r.1.q.1 (us.flatMap (de db p))
 |[],_,_=>.nil
 | a::r,hn,hu=>by
  rw[List.flatMap_cons];refine List.pairwise_append.2 ⟨Rd h m,sD h m (List.nodup_cons.1 hn).2 (λu q=>hu u (nc _ q)),λx g y j e=>?_⟩;have⟨u,c,l⟩:=Bo.1 j;have b:=ZI h m (hu a uA) (List.mem_filter.1 g).1;have d:=ZI h m (hu u (nc _ c)) (List.mem_filter.1 l).1;rw[e,d]at b;have:u=a:=congrArg Prod.fst b;subst this;exact(List.nodup_cons.1 hn).1 c
theorem HY{k:Int}{l:List zr}(h:Bf k l){a b:zr}(g:a∈l)(m:b∈l)(e:zP k a=zP k b):a=b:=by
 obtain⟨i,x,rfl⟩:=fO g;obtain⟨j,d,rfl⟩:=fO m;rcases Nat.lt_trichotomy i j with c|c|c
 .exact zA e (List.pairwise_iff_getElem.1 h i j x d c)
 .subst c;rfl
 .exact zA e.symm (List.pairwise_iff_getElem.1 h j i d x c)
end
def Hc(db:zS)(p:aA)(v:zq):Nat:=(un p (zT db p) v (B6 db p v)).length-(de db p v).length
def dY(l:zr):zr:=l.foldl (λacc a=>if acc.any (λu=>Co u a)=O then acc else acc++[a]) []
def eZ(db:zS)(p:aA)(us:zr):Nat:=(us.map (Hc db p)).sum
theorem xm(l:zr)(a:zq):dY (l++[a])=if(dY l).any (λu=>Co u a)=O then dY l else dY l++[a]:=by unfold dY;rw[List.foldl_append];rfl
theorem OC(l:zr)(a:zq):a∈dY l↔a∈l:=by
 have d:∀(n:Nat)(l:zr),X l=n->(a∈dY l↔a∈l):=by
  intro n
  induction n with
  |zero=>intro l c;rw[List.length_eq_zero_iff.1 c];exact Iff.rfl
  | succ n x=>
   intro l c;obtain⟨e,b,rfl⟩:∃e b,l=e++[b]:=⟨l.dropLast,l.getLast (List.ne_nil_of_length_pos W),(List.dropLast_concat_getLast _).symm⟩;have x:=x e (by simpa using c);rw[xm];split
   .rename_i h;have⟨u,g,j⟩:=List.any_eq_true.1 h;rw[jF.1 j]at g;rw[x,cX,fh];refine⟨.inl,λh=>?_⟩;rcases h with h|rfl
    .exact h
    .refine x.1 ?_;exact g
   .rw[cX,cX,x]
 exact d _ l rfl
theorem zaB(l:zr)(a:zq):(dY l).any (λu=>Co u a)=l.any (λu=>Co u a):=by rw[oA,List.any_eq_true,List.any_eq_true];exact⟨λ⟨u,h,x⟩=>⟨u,(OC l u).1 h,x⟩,λ⟨u,h,x⟩=>⟨u,(OC l u).2 h,x⟩⟩
theorem pX(l:zr):(dY l).Nodup:=by
 have d:∀(n:Nat)(l:zr),X l=n->(dY l).Nodup:=by
  intro n
  induction n with
  |zero=>intro l c;rw[List.length_eq_zero_iff.1 c];exact List.nodup_nil
  | succ n a=>
   intro l c;obtain⟨g,b,rfl⟩:∃g b,l=g++[b]:=⟨l.dropLast,l.getLast (List.ne_nil_of_length_pos W),(List.dropLast_concat_getLast _).symm⟩;have a:=a g (by simpa using c);rw[xm];split
   .exact a
   next h=>rw[List.nodup_append];refine⟨a,sw,λx m y j e=>h ?_⟩;rw[fh]at j;subst j;exact List.any_eq_true.2 ⟨x,m,jF.2 e⟩
 exact d _ l rfl
theorem AJ{l:zr}(h:l.Nodup):dY l=l:=by
 have c:∀(n:Nat)(l:zr),X l=n->l.Nodup->dY l=l:=by
  intro n
  induction n with
  |zero=>intro l x _;rw[List.length_eq_zero_iff.1 x];rfl
  | succ n j=>
   intro l x a;obtain⟨d,b,rfl⟩:∃d b,l=d++[b]:=⟨l.dropLast,l.getLast (List.ne_nil_of_length_pos W),(List.dropLast_concat_getLast _).symm⟩;rw[List.nodup_append]at a;rw[xm,j d (by simpa using x) a.1,zh];rw[List.any_eq_true];rintro⟨u,g,e⟩;exact a.q u g b sw (jF.1 e)
 exact c _ l rfl h
section
variable {db:List (J zl)} {p:J ar} {v:J R} {us:List (J R)}
theorem Oy(h:v.1=0):B6 db p v=[]:=List.filter_eq_nil_iff.2 λ_ _ x=>(nu.1 x).2 h
theorem znx(h:v.1=0):un p (zT db p) v (B6 db p v)=[]:=by rw[Oy h];unfold un;split<;>rfl
theorem zev:(de db p v).length<=(un p (zT db p) v (B6 db p v)).length:=List.length_filter_le _ _
theorem Z2(us:zr)(d:us.Nodup):(us.map λu=>(un p (zT db p) u (B6 db p u)).length).sum<=(fa db p).2.length:=by
 have b:∀l:zr,(l.map λu=>(un p (zT db p) u (B6 db p u)).length).sum=((l.filter λu=>u.1!=0).map λu=>(un p (zT db p) u (B6 db p u)).length).sum:=by
  intro l
  induction l with
  |nil=>rfl
  | cons a r x=>
   rw[ew,List.sum_cons,List.filter_cons,x];by_cases h:a.1=0
   .rw[zh (by simpa using h),znx h];simp
   .rw[zf (by simpa using h),ew,List.sum_cons]
 have c:∀l:zr,(l.map λu=>(un p (zT db p) u (B6 db p u)).length).sum<=(l.map λu=>(B6 db p u).length).sum:=by
  intro l
  induction l with
  |nil=>exact zM _
  | cons a r x=>
   rw[ew,List.sum_cons,ew,List.sum_cons];have:=Rx (db:=db) (p:=p) (v:=a);omega
 have g:=OJ (dV p (zT db p)) (fa db p).2 (us.filter λu=>u.1!=0) (d.filter _) λu e=>by simpa using(List.mem_filter.1 e).2
 rw[b];have:=c (us.filter λu=>u.1!=0);unfold B6 at this|-;omega
theorem Re(us:zr):(us.flatMap (de db p)).length+eZ db p us=(us.map λu=>(un p (zT db p) u (B6 db p u)).length).sum:=by
 induction us with
 |nil=>rfl
 | cons a r h=>
  unfold eZ at h|-;rw[List.flatMap_cons,jK,ew,List.sum_cons,ew,List.sum_cons,<-h];have:=zev (db:=db) (p:=p) (v:=a);unfold Hc;omega
end
section
variable {db:List (J zl)} {p:J ar} {us:List (J R)}
theorem lS(h:aP db p)(us:zr)(x:us.Nodup):(us.flatMap (de db p)).length<=200/\eZ db p us<=200:=by have a:=Re (db:=db) (p:=p) us;have b:=Z2 (db:=db) (p:=p) us x;have:=h.rel.few;omega
end
section
variable {p:J ar} {src:List (J zl)} {u:J R} {row:List (J R)} {rows:List (List (J R))}
theorem T3(d:∀c∈p.t.1,zL c (X row)=O)(g:X p.t.1<=1000):J9 (p,src) row=M (jw p row,()):=by
 have e:(ziK (p,src) row).val=M (.inl (.h3 row p.t.1 (X p.t.1:Int) ((0:Nat):Int) [])):=rfl;have x:=zH.all (t:=UB) 1 (λi=>.h3 row p.t.1 (X p.t.1:Int) (i:Int) ((p.t.1.take i).map λc=>zP c row)) (X p.t.1) λi h=>zH.of (by
  have a:=d _ (bC h);have b:T (((p.t.1.take i).map λc=>zP c row).length+[zP p.t.1[i] row].length<=1073741824)=O:=by simp;omega
  simp only[UB,Q8,zN h,zx h,zX _ _ h,a,zj];rw[zf b,zu i um,bF h,gh];rfl)
 simp only[gE,List.take_zero,rm]at x;refine zz e (x.ends (zU.of (r:=(AV.vec 0,[AO.vec R (jw p row)])) ?_)) W rfl;simp only[UB,Q8,zK,zD,zm];rfl
theorem zd9(g:∀row∈rows,∀c∈p.t.1,zL c (X row)=O)(j:X p.t.1<=1000)(m:X rows<=1000):J6 (p,src) u rows=M (rows.map (jw p),()):=by
 have l:(ztj (p,src) u rows).val=M (.inl (.h3 rows (X rows:Int) ((0:Nat):Int) ((p,src),()) [])):=rfl;have x:=zH.all (t:=zfX) 1 (λi=>.h3 rows (X rows:Int) (i:Int) ((p,src),()) ((rows.take i).map (jw p))) (X rows) λi h=>zH.of (by
  have a:=T3 (src:=src) (g _ (bC h)) j;have b:yI (p,src) rows[i]=O:=by unfold yI;rw[a];rfl
  have e:H1 (p,src) rows[i]=jw p rows[i]:=by unfold H1;rw[a];rfl
  have d:T (((rows.take i).map (jw p)).length+[jw p rows[i]].length<=1073741824)=O:=by simp;omega
  simp only[zfX,Q8,zo,bh,zN h,zx h,zX _ _ h,b,e,zj];rw[zf d,zu i um,bF h,gh];rfl)
 simp only[gE,List.take_zero,rm]at x;refine zz l (x.ends (zU.of (r:=(AV.vec 0,[AO.vec ze.sl (rows.map (jw p))])) ?_)) W rfl;simp only[zfX,Q8,zK,zD,zm]
theorem zd8{a b:zr}(m:X a<=1000)(o:X b<=1000):S2 [a,b]=M (a++b,()):=by
 have e:(ziL [a,b]).val=M (.inl (.h3 [a,b] 0 [a,b] 2 0)):=rfl;have w:Γ Δ (0+(X a:Int))=(X a:Int):=by rw[fi];omega
 have l:Γ Δ ((X a:Int)+(X b:Int))=((X a+X b:Nat):Int):=by rw[fi];omega
 have n:T (LT.lt (α:=Int) (X a:Int) 0)=S:=aB W;have j:T (LT.lt (α:=Int) ((X a+X b:Nat):Int) 0)=S:=aB W;have g:zH JK 1 (.h3 [a,b] 0 [a,b] 2 0) (.h3 [a,b] (X a:Int) [a,b] 2 1):=zH.of (by
  show(br O (K O (br (T (LT.lt (α:=Int) (Γ Δ (0+(X a:Int))) 0)) Tr.err (Q9 (oo.h3 [a,b] (Γ Δ (0+(X a:Int))) [a,b] 2 1)))) _).val=_;rw[w,n];rfl)
 have h:zH JK 1 (.h3 [a,b] (X a:Int) [a,b] 2 1) (.h3 [a,b] ((X a+X b:Nat):Int) [a,b] 2 2):=zH.of (by
  show(br O (K O (br (T (LT.lt (α:=Int) (Γ Δ ((X a:Int)+(X b:Int))) 0)) Tr.err (Q9 (oo.h3 [a,b] (Γ Δ ((X a:Int)+(X b:Int))) [a,b] 2 2)))) _).val=_;rw[l,j];rfl)
 have x:zH JK 1 (.h3 [a,b] ((X a+X b:Nat):Int) [a,b] 2 2) (.h11 [a,b] 2 0 []):=zH.of (by
  show(br S _ (K (T (LE.le (α:=Int) 0 ((X a+X b:Nat):Int))) (K (T (LE.le (α:=Int) ((X a+X b:Nat):Int) 1000000)) (Q9 (oo.h11 [a,b] 2 0 []))))).val=_;rw[zB (show LE.le (α:=Int) 0 ((X a+X b:Nat):Int) by omega),zB (show LE.le (α:=Int) ((X a+X b:Nat):Int) 1000000 by omega)];rfl)
 have c:zH JK 1 (.h11 [a,b] 2 0 []) (.h11 [a,b] 2 1 a):=zH.of (by
  show(br O (K O (K (T (([]:zr).length+X a<=1073741824)) (Q9 (oo.h11 [a,b] 2 1 ([]++a))))) _).val=_;rw[zB (show([]:zr).length+X a<=1073741824 by simp;omega)];rfl)
 have d:zH JK 1 (.h11 [a,b] 2 1 a) (.h11 [a,b] 2 2 (a++b)):=zH.of (by
  show(br O (K O (K (T (X a+X b<=1073741824)) (Q9 (oo.h11 [a,b] 2 2 (a++b))))) _).val=_;rw[zB (show X a+X b<=1073741824 by omega)];rfl)
 exact zz e (((((g.trans h).trans x).trans c).trans d).ends (zU.of (r:=(AV.vec 0,[AO.vec R (a++b)])) rfl)) W rfl
end
section
variable {p:J ar} {src:List (J zl)} {u:J R} {rows:List (List (J R))}
theorem Ze{c b:Int}(h:p.t.1=[c,b])(l:∀row∈rows,zL b (X row)=O)(n:X rows<=1000):Cw (p,src) u rows=M (ite (rows=[]) [] [[u,rows.foldl (P1 p) (1,0,[])]],()):=by
 by_cases x:rows=[]
 .subst x;exact zQ (r:=(nils,[])) rfl rfl
 rw[zh x];have d:((X rows:Int)==0)=S:=by
  have:=List.length_pos_iff.2 x;rw[dX];omega
 have j:(zmN (p,src) u rows).val=M (.inl (.h5 rows (X rows:Int) ((0:Nat):Int) ((p,src),()) (u,()) ((1,0,[]),()))):=by
  simp only[zmN,Q8,d,zD,zm];rfl
 have g:zL 1 (X p.t.1)=O:=by rw[h];rfl
 have e:Y p.t.1 (Z 1) (Q zk)=b:=by rw[h];rfl
 have a:=zH.all (t:=zf0) 1 (λi=>.h5 rows (X rows:Int) (i:Int) ((p,src),()) (u,()) ((rows.take i).foldl (P1 p) (1,0,[]),())) (X rows) λi m=>zH.of (by
  grind[zf0,Q8,zx,zX,bF,zu,aD,P1])
 simp only[gE,List.take_zero,List.foldl_nil]at a;refine zz j (a.ends (zU.of (r:=(N ze.sl [[u,rows.foldl (P1 p) (1,0,[])]],[])) ?_)) W rfl;grind[zf0,Q8]
end
section
variable {db:List (J zl)} {p:J ar}
theorem zfA(h:aP db p){row:zr}(x:row∈(fa db p).2):X row<=1000:=bc (h.len x) W
theorem zeU(h:aP db p)(m:lz db p)(B:p.1=ic)(u:zq){rows:List zr}(hR:∀row∈rows,row∈B6 db p u)(z:X rows<=200):J8 (p,zT db p) u rows=M (rows.map (uM p (zT db p) u),()):=by
 have⟨_,y,o,yo,yw,yc,yr⟩:=m.join B;have a:∀row∈rows,X row<=1000/\iu y y.1.q.1 u=O:=λrow U=>by
  grind[wg,dV,zfA]
 have d:∀row,uM p (zT db p) u row=row++jw p (Y y.2 (ah (λr=>bK r y.1.q.1 u) y.2 0).toNat (Q ze.sl)):=λrow=>by
  unfold uM;rw[zf B,o];rfl
 have⟨F,G⟩:=Ph u yo.may;have e0:zL 1 (X (zT db p))=O:=by rw[o];rfl
 have w:Y (zT db p) (Z 1) (Q zl)=y:=by rw[o];rfl
 generalize zT db p=src at d e0 w|-;rcases eL (λr=>bK r y.1.q.1 u) y.2 0 with⟨l,_⟩|⟨k,n,l,_,_⟩
 .have P:rows=[]:=List.eq_nil_iff_forall_not_mem.2 λrow U=>by
   grind[iu]
  subst P;refine zQ (r:=(nils,[])) ?_ rfl;grind[zeT,Q8,zo]
 .rw[eI]at l;have g:T (LT.lt (α:=Int) (k:Int) 0)=S:=aB W;have x:∀c∈p.t.1,zL c (X y.2[k])=O:=λc hc=>by
   grind[cL,ef.fits]
  have C:=T3 (src:=src) x m.few;have E:yI (p,src) y.2[k]=O:=by unfold yI;rw[C];rfl
  have s:H1 (p,src) y.2[k]=jw p y.2[k]:=by unfold H1;rw[C];rfl
  have j:(jw p y.2[k]).length<=1000:=by unfold jw;rw[dc];exact m.few
  have e:rows.map (uM p src u)=rows.map (λrow=>row++jw p y.2[k]):=List.map_congr_left λrow _=>by rw[d,l,zX _ _ n]
  rw[e];generalize jw p y.2[k]=b at s j|-;have hs:(zeT (p,src) u rows).val=M (.inl (.h7 b rows (X rows:Int) ((0:Nat):Int) [])):=by
   simp only[zeT,Q8,zo,bh,e0,w,F,G,l,g,zx n,zX _ _ n,E,s,zD,zj,zm];rfl
  have A:=zH.all (t:=zfY) 1 (λi=>.h7 b rows (X rows:Int) (i:Int) ((rows.take i).map λrow=>row++b)) (X rows) λi H=>zH.of (by
   have D:=zd8 (a _ (bC H)).1 j;have d1:X4 [rows[i],b]=O:=by unfold X4;rw[D];rfl
   have d2:zl1 [rows[i],b]=rows[i]++b:=by unfold zl1;rw[D];rfl
   have d3:T (((rows.take i).map λrow=>row++b).length+[rows[i]++b].length<=1073741824)=O:=by simp;omega
   grind[zfY,Q8,zx,zX,zu,aD,bF])
  simp only[gE,List.take_zero,rm]at A;refine zz hs (A.ends (zU.of (r:=(AV.vec 0,[AO.vec ze.sl (rows.map λrow=>row++b)])) ?_)) W rfl;grind[zfY,Q8]
theorem Tk(h:aP db p)(m:lz db p)(u:zq){R:List zr}(q:∀row∈R,row∈B6 db p u)(d:X R<=200):
  DK (p,zT db p) u R=M ((un p (zT db p) u R).filter (λr=>dj p.r.1 r==(0:Int)),(((un p (zT db p) u R).length-((un p (zT db p) u R).filter λr=>dj p.r.1 r==(0:Int)).length:Nat):Int),()):=by
 have l:(un p (zT db p) u R).length<=200:=by
  unfold un;split
  .split<;>simp
  .rw[dc];exact d
 have z:(Zv (p,zT db p) u R).val=M (.inl (.h5 0 (un p (zT db p) u R) ((un p (zT db p) u R).length:Int) ((0:Nat):Int) ((p,zT db p),()) [])):=by
  rcases h.mig with e|e|e
  .have x:=zd9 (src:=zT db p) (u:=u) (rows:=R) (λrow w c x=>by
    have⟨y,_⟩:=wg (q row w);rw[(h.inn _ y).2];exact(m.copy e).1 c x) m.few W
   have n:P4 (p,zT db p) u R=O:=by unfold P4;rw[x];rfl
   have o:XQ (p,zT db p) u R=un p (zT db p) u R:=by
    unfold XQ un;rw[x,zh (by rw[e];decide)];refine List.map_congr_left λrow _=>?_
    unfold uM;rw[zh (by rw[e];decide)]
   grind[Zv,Q8,zo]
  .have x:=zeU h m e u q d;have n:P6 (p,zT db p) u R=O:=by unfold P6;rw[x];rfl
   have o:XS (p,zT db p) u R=un p (zT db p) u R:=by
    unfold XS un;rw[x,zh (by rw[e];decide)];rfl
   grind[Zv,Q8,zo]
  .have⟨_,a,b,g,F,D⟩:=m.group e;have x:=Ze (src:=zT db p) (u:=u) (rows:=R) g (λrow w=>by
    have⟨y,_⟩:=wg (q row w);rw[(h.inn _ y).2];exact D) W
   have n:J7 (p,zT db p) u R=O:=by unfold J7;rw[x];rfl
   have o:P5 (p,zT db p) u R=un p (zT db p) u R:=by
    unfold P5 un;rw[x,zf e];rfl
   have A:(p.1==dI)=S:=by rw[e];rfl
   have B:(p.1==ic)=S:=by rw[e];rfl
   have C:(p.1==qD)=O:=by rw[e];rfl
   simp only[Zv,Q8,zo,bh,A,B,C,n,o,zD,zj,zm];rfl
 generalize un p (zT db p) u R=rows at l z|-;have j:=zH.all (t:=zfV) 1 (λi=>.h5 ((i-((rows.take i).filter λr=>dj p.r.1 r==(0:Int)).length:Nat):Int) rows (X rows:Int) (i:Int) ((p,zT db p),()) ((rows.take i).filter λr=>dj p.r.1 r==(0:Int))) (X rows) λi E=>zH.of (by
  have s:((rows.take i).filter λr=>dj p.r.1 r==(0:Int)).length<=i:=bc (List.length_filter_le _ _) sg;rw[bF E,List.filter_append];generalize((rows.take i).filter λr=>dj p.r.1 r==(0:Int))=acc at s|-;grind[zfV,Q8,zo,zx,zu,aD])
 simp only[gE,List.take_zero,List.filter_nil]at j;refine zz z (j.ends (zU.of (r:=(tup [AV.vec 0,L ((X rows-(rows.filter λr=>dj p.r.1 r==(0:Int)).length:Nat):Int)],[AO.vec ze.sl (rows.filter λr=>dj p.r.1 r==(0:Int))])) ?_)) W rfl;grind[zfV,Q8]
theorem zl8(h:aP db p)(m:lz db p)(u:zq):DK (p,zT db p) u (B6 db p u)=M (de db p u,((Hc db p u:Nat):Int),()):=Tk h m u (λ_ h=>h) (bc (List.length_filter_le _ _) h.rel.few)
theorem zeq(h:aP db p)(m:lz db p)(u:zq):DK (p,zT db p) u []=M ([],0,()):=by grind[un,Tk]
end
def zgF:ag:=bf (List.replicate 1 Q2) (fj ND Tryz.f93 (List.replicate 1 Q2))
theorem zcG:FK 93 zgF:=cm _ lR (cK kw)
def zg9:ag:=bf (List.replicate 2 Q2) (fj ND Tryz.f162 (List.replicate 2 Q2))
theorem zc8:FK 162 zg9:=cm _ lR (cK kw)
def QI:=ND.addL [(93,zgF),(162,zg9)]
theorem Em:zw QI:=lR.addL<|fc zcG<|fc zc8<|jg
def zgH:ag:=bf (List.replicate 3 Q2) (fj QI Tryz.f94 (List.replicate 3 Q2))
theorem zcI:FK 94 zgH:=cm _ Em (cK kw)
def En:=QI.add 94 zgH
theorem Eo:zw En:=Em.add zcI
abbrev ZL:=kS [(1,[0,1,2,3,8]),(4,[0,1,2,3,8,9])]
inductive Bk where
 |h1 (i1:Int) (i2:Int) (i3f_0_0:Int) (i8:Int) (lh_0:List (J ze.sl))
 |h4 (i1:Int) (i2:Int) (i3f_0_0:Int) (i8:Int) (i9:Int) (lh_0:List (J ze.sl))
abbrev Nm:Bk->Nat×St
 |.h1 x a h b l=>(1,⟨tm 53 [(0,AV.vec 0),(1,L x),(2,L a),(3,AV.clo (Fn.func 94) [agg [L h]] []),(8,L b)],[AO.vec ze.sl l]⟩)
 |.h4 x a h b c l=>(4,⟨tm 53 [(0,AV.vec 0),(1,L x),(2,L a),(3,AV.clo (Fn.func 94) [agg [L h]] []),(8,L b),(9,L c)],[AO.vec ze.sl l]⟩)
theorem znE:zY En.P 223 Tryz.f223 4:=cK kw
def N3(l:List zr)(a b k:Int):Tr (Bk⊕aw):=
 Q9 (Bk.h1 a b k (Γ Δ (a+1)) l)
theorem zmi(l:List zr)(a b k:Int):rn En 1 ZL Tryz.f223 [AV.vec 0,L a,L b,AV.clo (Fn.func 94) [agg [L k]] []] [AO.vec (Sh.sl R) l]=(N3 l a b k).map (lf Tryz.f223 Nm):=kw
def kP:Bk->Tr (Bk⊕aw)
 | .h1 d n h e l=>
  br (T (e<n)) (Q9 (Bk.h4 d n h e e l))
  (re (tup []) [AO.vec ze.sl l])
 | .h4 d n h e x l=>
  let s:=T (x.toNat<X l)
  let a:=Γ Δ (x-1)
  let y:=zL a (X l)
  let z:=T (a.toNat<X l)
  let A:=T (h<0)
  let o:=l.getD x.toNat (Q ze.sl)
  let C:=(X o:Int)
  let B:=bif A then O else T (h>=C)
  let q:=l.getD a.toNat (Q ze.sl)
  let D:=(X q:Int)
  let b:=bif A then O else T (h>=D)
  let g:=bif b then O else zL h (X q)
  let j:=Y q h.toNat (Q R)
  let m:=Y o h.toNat (Q R)
  let w:=bif B then bif b then aF (0,0,[]) (0,0,[])else aF (0,0,[]) j else bif b then aF m (0,0,[])else aF m j
  let c:=l.set x.toNat q
  K (cond (T (x>d)) (zL x (X l)&&(s&&(y&&(z&&bif B then g else zL h (X o)&&g)))) O)
  (br (cond (T (x>d)) (T (w<0)) S) (K y (K z (K (zL x (X l)) (K s (K (zL x (X l)) (K s (K (zL a (X c)) (K (T (a.toNat<X c)) (Q9 (Bk.h4 d n h e a (c.set a.toNat o))))))))))) (Q9 (Bk.h1 d n h (Γ Δ (e+1)) l)))
theorem znL:∀s,run En 1 ZL (Func.results Tryz.f223).toList 400 (am Tryz.f223 (Nm s).1) (Nm s).2=(kP s).map (lf Tryz.f223 Nm):=by intro s;cases s<;>kernel_rfl
def E2(l:List zr)(a b k:Int):=bV kP 100000000 (N3 l a b k)
def Mx(r:Option aw):Option (List zr):=match r with
 |some (.tup [],[.vec (.sl OH) l])=>M l
 |_=>Q2
theorem t7{r:Option aw}(h:(Mx r).isSome=O):r=M (.tup [],[.vec (.sl R) ((Mx r).getD [])]):=by
 unfold Mx at h|-;split at h
 .rfl
 .cases h
def rL(l:List zr)(a b k:Int):=Mx (E2 l a b k)
def zhs:fD [Q2,Q2,Q2,Q2]:=λx h=>match x,h with
 |(.vec 0,L a,L b,.clo (.func 94) [.agg [L k]] [],_),[.vec (.sl OH) l]=>.chk ((rL l a b k).isSome) (.ok (.tup [],[.vec (.sl R) ((rL l a b k).getD [])]))
 |_,_=>.err
def zhd:ag:=bf [Q2,Q2,Q2,Q2] zhs
theorem zdc:FK 223 zhd:=by
 refine sJ (ι:=List zr×Int×Int×Int) (args:=λy=>[AV.vec 0,L y.2.1,L y.q.1,AV.clo (Fn.func 94) [agg [L y.r]] []]) (heap:=λy=>[AO.vec ze.sl y.1]) (i:=λy=>N3 y.1 y.2.1 y.q.1 y.r) (t:=kP) (e:=Nm) (n:=100000000) (n0:=1) Eo znE (λ_=>rfl) (λy=>zmi _ _ _ _) znL (λx h g c=>?_);unfold zhs at c;split at c
 .rename_i a b k u l;simp only[Q8]at c;split at c
  next d=>simp only[bG]at c;subst c;exact⟨(l,a,b,k),rfl,rfl,t7 d⟩
  .cases c
 .simp at c
def Ep:=En.add 223 zhd
theorem Er:zw Ep:=Eo.add zdc
abbrev ZO:=kS [(1,[0,1,2,3,10])]
inductive HN where
 |h1 (i1:Int) (i2:Int) (i3:Int) (i10:Int) (lh_0:List (J ze.sl))
abbrev Np:HN->Nat×St
 |.h1 x a b h l=>(1,⟨tm 38 [(0,AV.vec 0),(1,L x),(2,L a),(3,L b),(10,L h)],[AO.vec ze.sl l]⟩)
theorem znG:zY Ep.P 305 Tryz.f305 5:=cK kw
def Zs(l:List zr)(a b n _:Int):Tr (HN⊕aw):=
 Q9 (HN.h1 a b n 0 l)
theorem zmo(l:List zr)(a b n k:Int):rn Ep 1 ZO Tryz.f305 [AV.vec 0,L a,L b,L n,AV.clo (Fn.func 94) [agg [L k]] []] [AO.vec (Sh.sl R) l]=(Zs l a b n k).map (lf Tryz.f305 Np):=kw
def yl:HN->Tr (HN⊕aw)
 | .h1 e g j h l=>
  let a:=Γ Δ (g+h)
  let x:=Γ Δ (e+h)
  let c:=zL x (X l)
  let d:=T (x.toNat<X l)
  let b:=l.set x.toNat (l.getD a.toNat (Q ze.sl))
  br (T (h<j))
  (K (zL a (X l)) (K (T (a.toNat<X l)) (K c (K d (K c (K d (K (zL a (X b)) (K (T (a.toNat<X b)) (Q9 (HN.h1 e g j (Γ Δ (h+1)) (b.set a.toNat (l.getD x.toNat (Q ze.sl)))))))))))))
  (re (tup []) [AO.vec ze.sl l])
theorem znO:∀s,run Ep 1 ZO (Func.results Tryz.f305).toList 400 (am Tryz.f305 (Np s).1) (Np s).2=(yl s).map (lf Tryz.f305 Np):=by intro s;cases s<;>kernel_rfl
def zon(l:List zr)(a b n k:Int):=bV yl 100000000 (Zs l a b n k)
def Md(l:List zr)(a b n k:Int):=Mx (zon l a b n k)
def zhu:fD [Q2,Q2,Q2,Q2,Q2]:=λx h=>match x,h with
 |(.vec 0,L a,L b,L n,.clo (.func 94) [.agg [L k]] [],_),[.vec (.sl OH) l]=>.chk ((Md l a b n k).isSome) (.ok (.tup [],[.vec (.sl R) ((Md l a b n k).getD [])]))
 |_,_=>.err
def zhi:ag:=bf [Q2,Q2,Q2,Q2,Q2] zhu
theorem zdh:FK 305 zhi:=by
 refine sJ (ι:=List zr×Int×Int×Int×Int) (args:=λy=>[AV.vec 0,L y.2.1,L y.q.1,L y.r.1,AV.clo (Fn.func 94) [agg [L y.t]] []]) (heap:=λy=>[AO.vec ze.sl y.1]) (i:=λy=>Zs y.1 y.2.1 y.q.1 y.r.1 y.t) (t:=yl) (e:=Np) (n:=100000000) (n0:=1) Er znG (λ_=>rfl) (λy=>zmo _ _ _ _ _) znO (λx h g c=>?_);unfold zhu at c;split at c
 .rename_i a b n k u l;simp only[Q8]at c;split at c
  next d=>simp only[bG]at c;subst c;exact⟨(l,a,b,n,k),rfl,rfl,t7 d⟩
  .cases c
 .simp at c
def Es:=Ep.add 305 zhi
theorem Et:zw Es:=Er.add zdh
abbrev ZN:=kS [(2,[0,2,4,10,11])]
inductive Dx where
 |h2 (i2:Int) (i4f_0_0:Int) (i10:Int) (i11:Int) (lh_0:List (J ze.sl))
abbrev No:Dx->Nat×St
 |.h2 b h x a l=>(2,⟨tm 58 [(0,AV.vec 0),(2,L b),(4,AV.clo (Fn.func 94) [agg [L h]] []),(10,L x),(11,L a)],[AO.vec ze.sl l]⟩)
theorem znF:zY Es.P 267 Tryz.f267 5:=cK kw
def N4(l:List zr)(a m b k:Int):Tr (Dx⊕aw):=
 Q9 (Dx.h2 m k (Γ Δ (m-a)) (Γ Δ (b-m)) l)
theorem zmn(l:List zr)(a m b k:Int):rn Es 1 ZN Tryz.f267 [AV.vec 0,L a,L m,L b,AV.clo (Fn.func 94) [agg [L k]] []] [AO.vec (Sh.sl R) l]=(N4 l a m b k).map (lf Tryz.f267 No):=kw
def sv:Dx->Tr (Dx⊕aw)
 | .h2 b h x a l=>
  let c:=Γ Δ (b-x)
  let d:=Md l c b a h
  let e:=Md l c (Γ Δ (Γ Δ (b+a)-x)) x h
  let g:=Md l c b x h
  br (x !=a)
  (br (T (x>a)) (K d.isSome (Q9 (Dx.h2 b h (Γ Δ (x-a)) a (d.getD [])))) (K e.isSome (Q9 (Dx.h2 b h x (Γ Δ (a-x)) (e.getD [])))))
  (K g.isSome (re (tup []) [AO.vec ze.sl (g.getD [])]))
theorem znN:∀s,run Es 1 ZN (Func.results Tryz.f267).toList 400 (am Tryz.f267 (No s).1) (No s).2=(sv s).map (lf Tryz.f267 No):=by intro s;cases s<;>kernel_rfl
def zbq(l:List zr)(a m b k:Int):=bV sv 100000000 (N4 l a m b k)
def LU(l:List zr)(a m b k:Int):=Mx (zbq l a m b k)
def zht:fD [Q2,Q2,Q2,Q2,Q2]:=λx h=>match x,h with
 |(.vec 0,L a,L m,L b,.clo (.func 94) [.agg [L k]] [],_),[.vec (.sl OH) l]=>.chk ((LU l a m b k).isSome) (.ok (.tup [],[.vec (.sl R) ((LU l a m b k).getD [])]))
 |_,_=>.err
def zhh:ag:=bf [Q2,Q2,Q2,Q2,Q2] zht
theorem zdg:FK 267 zhh:=by
 refine sJ (ι:=List zr×Int×Int×Int×Int) (args:=λy=>[AV.vec 0,L y.2.1,L y.q.1,L y.r.1,AV.clo (Fn.func 94) [agg [L y.t]] []]) (heap:=λy=>[AO.vec ze.sl y.1]) (i:=λy=>N4 y.1 y.2.1 y.q.1 y.r.1 y.t) (t:=sv) (e:=No) (n:=100000000) (n0:=1) Et znF (λ_=>rfl) (λy=>zmn _ _ _ _ _) znN (λx h g c=>?_);unfold zht at c;split at c
 .rename_i a m b k u l;simp only[Q8]at c;split at c
  next d=>simp only[bG]at c;subst c;exact⟨(l,a,m,b,k),rfl,rfl,t7 d⟩
  .cases c
 .simp at c
def Kq:=Es.add 267 zhh
theorem Eu:zw Kq:=Et.add zdg
abbrev SM:=List zr->Int->Int->Int->Int->Option (List zr)
def GSm(o:SM):fD [Q2,Q2,Q2,Q2,Q2]:=λx h=>match x,h with
 |(.vec 0,L a,L m,L b,.clo (.func 94) [.agg [L k]] [],_),[.vec (.sl OH) l]=>.chk ((o l a m b k).isSome) (.ok (.tup [],[.vec (.sl R) ((o l a m b k).getD [])]))
 |_,_=>.err
def FSm(o:SM):ag:=bf [Q2,Q2,Q2,Q2,Q2] (GSm o)
def D4(o:SM):cu:=Kq.add 224 (FSm o)
theorem QD{o:SM}(h:FK 224 (FSm o)):zw (D4 o):=Eu.add h
abbrev ZM:=kS [(3,[0,1,4,10,11]),(9,[0,10,13]),(15,[0,2,4,14,15]),(21,[0,14,17]),(33,[0,1,2,3,4,18,19,20,21,22])]
inductive jJ where
 |h3 (i1:Int) (i4f_0_0:Int) (i10:Int) (i11:Int) (lh_0:List (J ze.sl))
 |h15 (i2:Int) (i4f_0_0:Int) (i14:Int) (i15:Int) (lh_0:List (J ze.sl))
 |h33 (i1:Int) (i2:Int) (i3:Int) (i4f_0_0:Int) (i18:Int) (i19:Int) (i20:Int) (i21:Int) (i22:Int) (lh_0:List (J ze.sl))
 |h9 (i10:Int) (i13:Int) (lh_0:List (J ze.sl))
 |h21 (i14:Int) (i17:Int) (lh_0:List (J ze.sl))
abbrev Nn:jJ->Nat×St
 |.h3 b h x c l=>(3,⟨tm 220 [(0,AV.vec 0),(1,L b),(4,AV.clo (Fn.func 94) [agg [L h]] []),(10,L x),(11,L c)],[AO.vec ze.sl l]⟩)
 |.h15 n h a e l=>(15,⟨tm 220 [(0,AV.vec 0),(2,L n),(4,AV.clo (Fn.func 94) [agg [L h]] []),(14,L a),(15,L e)],[AO.vec ze.sl l]⟩)
 |.h33 b n w h j m o q s l=>(33,⟨tm 220 [(0,AV.vec 0),(1,L b),(2,L n),(3,L w),(4,AV.clo (Fn.func 94) [agg [L h]] []),(18,L j),(19,L m),(20,L o),(21,L q),(22,L s)],[AO.vec ze.sl l]⟩)
 |.h9 x d l=>(9,⟨tm 220 [(0,AV.vec 0),(10,L x),(13,L d)],[AO.vec ze.sl l]⟩)
 |.h21 a g l=>(21,⟨tm 220 [(0,AV.vec 0),(14,L a),(17,L g)],[AO.vec ze.sl l]⟩)
theorem KU(o:SM):zY (D4 o).P 224 Tryz.f224 5:=cK kw
def qH(_:SM)(l:List zr)(a m b k:Int):Tr (jJ⊕aw):=
 let h:=Γ Δ (IntKind.u64.wrap (Γ Δ (a+b))/2)
 let x:=Γ Δ (h+m)
 let c:=Γ Δ (x-1)
 br (Γ Δ (m-a)==1) (Q9 (jJ.h3 a k m b l))
 (br (Γ Δ (b-m)==1) (Q9 (jJ.h15 m k a m l))
  (K O (br (T (m>h)) (Q9 (jJ.h33 a m b k h x (Γ Δ (x-b)) h c l)) (Q9 (jJ.h33 a m b k h x a m c l)))))
theorem zmj(o:SM)(l:List zr)(a m b k:Int):rn (D4 o) 1 ZM Tryz.f224 [AV.vec 0,L a,L m,L b,AV.clo (Fn.func 94) [agg [L k]] []] [AO.vec (Sh.sl R) l]=(qH o l a m b k).map (lf Tryz.f224 Nn):=kw
def cr(o:SM):jJ->Tr (jJ⊕aw)
 | .h3 w h j P l=>
  let a:=Γ Δ (IntKind.u64.wrap (Γ Δ (j+P))/2)
  let c:=T (h<0)
  let g:=l.getD a.toNat (Q ze.sl)
  let z:=(X g:Int)
  let G:=bif c then O else T (h>=z)
  let A:=l.getD w.toNat (Q ze.sl)
  let H:=(X A:Int)
  let C:=bif c then O else T (h>=H)
  let D:=bif C then O else zL h (X A)
  let E:=Y A h.toNat (Q R)
  let d:=Y g h.toNat (Q R)
  let s:=bif G then bif C then aF (0,0,[]) (0,0,[])else aF (0,0,[]) E else bif C then aF d (0,0,[])else aF d E
  br (T (j<P))
  (K O (K (zL a (X l)) (K (T (a.toNat<X l)) (K (zL w (X l)) (K (T (w.toNat<X l)) (K (cond G D (zL h (X g)&&D)) (br (T (s<0)) (Q9 (jJ.h3 w h (Γ Δ (a+1)) P l)) (Q9 (jJ.h3 w h j a l)))))))))
  (Q9 (jJ.h9 j w l))
 | .h15 y h n U l=>
  let a:=Γ Δ (IntKind.u64.wrap (Γ Δ (n+U))/2)
  let c:=T (h<0)
  let g:=l.getD y.toNat (Q ze.sl)
  let z:=(X g:Int)
  let G:=bif c then O else T (h>=z)
  let A:=l.getD a.toNat (Q ze.sl)
  let H:=(X A:Int)
  let C:=bif c then O else T (h>=H)
  let D:=bif C then O else zL h (X A)
  let E:=Y A h.toNat (Q R)
  let d:=Y g h.toNat (Q R)
  let s:=bif G then bif C then aF (0,0,[]) (0,0,[])else aF (0,0,[]) E else bif C then aF d (0,0,[])else aF d E
  br (T (n<U))
  (K O (K (zL y (X l)) (K (T (y.toNat<X l)) (K (zL a (X l)) (K (T (a.toNat<X l)) (K (cond G D (zL h (X g)&&D)) (br (!Q0 (s<0)) (Q9 (jJ.h15 y h (Γ Δ (a+1)) U l)) (Q9 (jJ.h15 y h n a l)))))))))
  (Q9 (jJ.h21 n y l))
 | .h33 w y i3 h x h0 b h1 h2 l=>
  let a:=Γ Δ (IntKind.u64.wrap (Γ Δ (b+h1))/2)
  let c:=Γ Δ (h2-a)
  let g:=T (h<0)
  let z:=l.getD c.toNat (Q ze.sl)
  let G:=(X z:Int)
  let A:=bif g then O else T (h>=G)
  let H:=l.getD a.toNat (Q ze.sl)
  let C:=(X H:Int)
  let D:=bif g then O else T (h>=C)
  let E:=bif D then O else zL h (X H)
  let d:=Y H h.toNat (Q R)
  let s:=Y z h.toNat (Q R)
  let x5:=bif A then bif D then aF (0,0,[]) (0,0,[])else aF (0,0,[]) d else bif D then aF s (0,0,[])else aF s d
  let e:=Γ Δ (h0-b)
  let h4:=LU l b y e h
  let h5:=bif T (w<b)then T (b<x)else S
  let F:=h4.getD []
  let h6:=o F w b x h
  let B:=bif T (x<e)then T (e<i3)else S
  let h7:=h6.getD []
  let h8:=o h7 x e i3 h
  let x0:=o F x e i3 h
  let x1:=o l w b x h
  let x2:=x1.getD []
  let x3:=o x2 x e i3 h
  let x4:=o l x e i3 h
  br (T (b<h1))
  (K O (K (zL c (X l)) (K (T (c.toNat<X l)) (K (zL a (X l)) (K (T (a.toNat<X l)) (K (cond A E (zL h (X z)&&E)) (br (!Q0 (x5<0)) (Q9 (jJ.h33 w y i3 h x h0 (Γ Δ (a+1)) h1 h2 l))
  (Q9 (jJ.h33 w y i3 h x h0 b a h2 l)))))))))
  (br (cond (T (b<y)) (T (y<e)) S) (K h4.isSome (br h5 (K h6.isSome (br B (K h8.isSome (re (tup []) [AO.vec ze.sl (h8.getD [])])) (re (tup []) [AO.vec ze.sl h7]))) (br B (K x0.isSome (re (tup []) [AO.vec ze.sl (x0.getD [])])) (re (tup []) [AO.vec ze.sl F])))) (br h5
  (K x1.isSome (br B (K x3.isSome (re (tup []) [AO.vec ze.sl (x3.getD [])])) (re (tup []) [AO.vec ze.sl x2]))) (br B (K x4.isSome (re (tup []) [AO.vec ze.sl (x4.getD [])])) (re (tup []) [AO.vec ze.sl l]))))
 | .h9 j m l=>
  let a:=Γ Δ (j-1)
  let c:=Γ Δ (m+1)
  let g:=T (m.toNat<X l)
  let z:=l.set m.toNat (l.getD c.toNat (Q ze.sl))
  br (T (m<a))
  (K (zL c (X l)) (K (T (c.toNat<X l)) (K (zL m (X l)) (K g (K (zL m (X l)) (K g (K (zL c (X z)) (K (T (c.toNat<X z)) (Q9 (jJ.h9 j c (z.set c.toNat (l.getD m.toNat (Q ze.sl)))))))))))))
  (re (tup []) [AO.vec ze.sl l])
 | .h21 n q l=>
  let a:=Γ Δ (q-1)
  let c:=T (q.toNat<X l)
  let g:=l.set q.toNat (l.getD a.toNat (Q ze.sl))
  br (T (q>n))
  (K (zL a (X l)) (K (T (a.toNat<X l)) (K (zL q (X l)) (K c (K (zL q (X l)) (K c (K (zL a (X g)) (K (T (a.toNat<X g)) (Q9 (jJ.h21 n a (g.set a.toNat (l.getD q.toNat (Q ze.sl)))))))))))))
  (re (tup []) [AO.vec ze.sl l])
theorem znM(o:SM):∀s,run (D4 o) 1 ZM (Func.results Tryz.f224).toList 400 (am Tryz.f224 (Nn s).1) (Nn s).2=(cr o s).map (lf Tryz.f224 Nn):=by intro s;cases s<;>kernel_rfl
def smS(o:SM):SM:=λl a m b k=>Mx (bV (cr o) 100000000 (qH o l a m b k))
def uU:Nat->SM
 |0=>λ_ _ _ _ _=>Q2
 |n+1=>smS (uU n)
theorem SE:∀n,FK 224 (FSm (uU n))
 | 0=>fV (E:=Kq) ⟨Tryz.f224,(KU (uU 0)).1,(KU (uU 0)).2.1,(KU (uU 0)).q.1⟩ fun x j d h=>by
  exfalso;unfold GSm at h;split at h
  .simp[uU,Q8]at h
  .simp at h
 | n+1=>by
  refine sJ (E:=D4 (uU n)) (ι:=List zr×Int×Int×Int×Int) (args:=λy=>[AV.vec 0,L y.2.1,L y.q.1,L y.r.1,AV.clo (Fn.func 94) [agg [L y.t]] []]) (heap:=λy=>[AO.vec ze.sl y.1]) (i:=λy=>qH (uU n) y.1 y.2.1 y.q.1 y.r.1 y.t) (t:=cr (uU n)) (e:=Nn) (n:=100000000) (n0:=1) (QD (SE n)) (KU (uU n)) (λ_=>rfl) (λy=>zmj _ _ _ _ _ _) (znM (uU n)) (λx h d c=>?_);unfold GSm at c;split at c
  .rename_i a m b k u l;simp only[Q8]at c;split at c
   next g=>simp only[bG]at c;subst c;exact⟨(l,a,m,b,k),rfl,rfl,t7 g⟩
   .cases c
  .simp at c
def zhe:ag:=FSm (uU 16)
theorem zdd:FK 224 zhe:=SE 16
def Ev:=Kq.add 224 zhe
theorem Ew:zw Ev:=Eu.add zdd
abbrev ZK:=kS [(2,[0,1,2,6,7,8]),(7,[0,1,2,6]),(9,[0,1,2,6,7,8])]
inductive qY where
 |h2 (i1:Int) (i2f_0_0:Int) (i6:Int) (i7:Int) (i8:Int) (lh_0:List (J ze.sl))
 |h7 (i1:Int) (i2f_0_0:Int) (i6:Int) (lh_0:List (J ze.sl))
 |h9 (i1:Int) (i2f_0_0:Int) (i6:Int) (i7:Int) (i8:Int) (lh_0:List (J ze.sl))
abbrev Nl:qY->Nat×St
 |.h2 x h a b c l=>(2,⟨tm 63 [(0,AV.vec 0),(1,L x),(2,AV.clo (Fn.func 94) [agg [L h]] []),(6,L a),(7,L b),(8,L c)],[AO.vec ze.sl l]⟩)
 |.h7 x h a l=>(7,⟨tm 63 [(0,AV.vec 0),(1,L x),(2,AV.clo (Fn.func 94) [agg [L h]] []),(6,L a)],[AO.vec ze.sl l]⟩)
 |.h9 x h a b c l=>(9,⟨tm 63 [(0,AV.vec 0),(1,L x),(2,AV.clo (Fn.func 94) [agg [L h]] []),(6,L a),(7,L b),(8,L c)],[AO.vec ze.sl l]⟩)
theorem znD:zY Ev.P 161 Tryz.f161 3:=cK kw
def Zq(l:List zr)(n k:Int):Tr (qY⊕aw):=
 Q9 (qY.h2 n k 20 0 20 l)
theorem zmh(l:List zr)(n k:Int):rn Ev 1 ZK Tryz.f161 [AV.vec 0,L n,AV.clo (Fn.func 94) [agg [L k]] []] [AO.vec (Sh.sl R) l]=(Zq l n k).map (lf Tryz.f161 Nl):=kw
def eS:qY->Tr (qY⊕aw)
 | .h2 x h a d b l=>
  let c:=rL l d b h
  let e:=rL l d x h
  br (T (b<=x)) (K c.isSome (Q9 (qY.h2 x h a b (Γ Δ (b+a)) (c.getD []))))
  (K e.isSome (Q9 (qY.h7 x h a (e.getD []))))
 | .h7 x h a l=>
  br (T (a<x)) (Q9 (qY.h9 x h a 0 (Γ Δ (2*a)) l))
  (re (tup []) [AO.vec ze.sl l])
 | .h9 x h a d b l=>
  let c:=Γ Δ (d+a)
  let e:=uU 16 l d c b h
  let g:=uU 16 l d c x h
  let j:=Γ Δ (a*2)
  br (T (b<=x)) (K e.isSome (Q9 (qY.h9 x h a b (Γ Δ (b+Γ Δ (2*a))) (e.getD []))))
  (br (T (c<x)) (K g.isSome (Q9 (qY.h7 x h j (g.getD [])))) (Q9 (qY.h7 x h j l)))
theorem znK:∀s,run Ev 1 ZK (Func.results Tryz.f161).toList 400 (am Tryz.f161 (Nl s).1) (Nl s).2=(eS s).map (lf Tryz.f161 Nl):=by intro s;cases s<;>kernel_rfl
def zbH(l:List zr)(n k:Int):=bV eS 100000000 (Zq l n k)
def GC(l:List zr)(n k:Int):=Mx (zbH l n k)
def zhq:fD [Q2,Q2,Q2]:=λx h=>match x,h with
 |(.vec 0,L n,.clo (.func 94) [.agg [L k]] [],_),[.vec (.sl OH) l]=>.chk ((GC l n k).isSome) (.ok (.tup [],[.vec (.sl R) ((GC l n k).getD [])]))
 |_,_=>.err
def zg8:ag:=bf [Q2,Q2,Q2] zhq
theorem zc7:FK 161 zg8:=by
 refine sJ (ι:=List zr×Int×Int) (args:=λy=>[AV.vec 0,L y.2.1,AV.clo (Fn.func 94) [agg [L y.q]] []]) (heap:=λy=>[AO.vec ze.sl y.1]) (i:=λy=>Zq y.1 y.2.1 y.q) (t:=eS) (e:=Nl) (n:=100000000) (n0:=1) Ew znD (λ_=>rfl) (λy=>zmh _ _ _) znK (λx h c a=>?_);unfold zhq at a;split at a
 .rename_i n k u l;simp only[Q8]at a;split at a
  next b=>simp only[bG]at a;subst a;exact⟨(l,n,k),rfl,rfl,t7 b⟩
  .cases a
 .simp at a
def Kr:=Ev.add 161 zg8
theorem Ex:zw Kr:=Ew.add zc7
abbrev znb:=kS []
theorem znC:zY Kr.P 92 Tryz.f92 2:=cK kw
def N1(l:List zr)(k:Int):Tr (Empty⊕aw):=
 let a:=GC l (X l:Int) k
 K a.isSome (re (tup []) [AO.vec ze.sl (a.getD [])])
theorem zme(l:List zr)(k:Int):rn Kr 1 znb Tryz.f92 [AV.vec 0,AV.clo (Fn.func 94) [agg [L k]] []] [AO.vec (Sh.sl R) l]=(N1 l k).map (lf Tryz.f92 e0):=kw
def GB(l:List zr)(k:Int):=bV t0 100000000 (N1 l k)
def sm(l:List zr)(k:Int):=Mx (GB l k)
def zhp:fD [Q2,Q2]:=λx h=>match x,h with
 |(.vec 0,.clo (.func 94) [.agg [L k]] [],_),[.vec (.sl OH) l]=>.chk ((sm l k).isSome) (.ok (.tup [],[.vec (.sl R) ((sm l k).getD [])]))
 |_,_=>.err
def zgD:ag:=bf [Q2,Q2] zhp
theorem zcE:FK 92 zgD:=by
 refine sJ (ι:=List zr×Int) (args:=λy=>[AV.vec 0,AV.clo (Fn.func 94) [agg [L y.2]] []]) (heap:=λy=>[AO.vec ze.sl y.1]) (i:=λy=>N1 y.1 y.2) (t:=t0) (e:=e0) (n:=100000000) (n0:=1) Ex znC (λ_=>rfl) (λy=>zme _ _) (on0 _ _ _ _ _) (λx h c a=>?_);unfold zhp at a;split at a
 .rename_i k u l;simp only[Q8]at a;split at a
  next b=>simp only[bG]at a;subst a;exact⟨(l,k),rfl,rfl,t7 b⟩
  .cases a
 .simp at a
def YQ:=Kr.add 92 zgD
theorem QJ:zw YQ:=Ex.add zcE
end
end Cad
