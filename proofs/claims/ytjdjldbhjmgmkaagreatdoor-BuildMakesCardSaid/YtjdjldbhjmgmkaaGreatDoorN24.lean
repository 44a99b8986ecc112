/- Build. -/
import Derived.Test.YtjdjldbhjmgmkaaGreatDoorN23
namespace Cad
open Go Go.Proofs Tryz
open List renaming length->N
open IntKind renaming wrap->Γ,i64->Δ
open Tr renaming val->Q8
open Bool renaming false->M,true->Z
open Option renaming some->Y
open Decidable renaming decide->K
open List renaming getD->T
open Tr (chk br re)
open AV (nils agg tup ptr kb)
open AV renaming sl->O,str->X
open Cad renaming Sem->L,ze->R,ai->J,ow->S
set_option maxHeartbeats 4000000
set_option maxRecDepth 100000
noncomputable section
def FE:Code:=match f13.body with
 |some (.seq _ (.seq _ (.seq _ (.seq _ (.seq _ (.seq (.seq _ (.block _ (.loop c))) _))))))=>c
 |_=>.skip
def PR:Code->List Oper
 |.region _ x _=>x.toList
 |_=>[]
def zoP:List (List Oper):=match FE with
 |.seq a (.seq _ (.seq (.block _ (.seq b c)) d))=>[PR a,PR b,(PR c).take 7,(PR c).drop 7,PR d]
 |_=>[]
def XG(i:Nat):List Oper:=zoP.getD i []
theorem WO:FE=.seq (.region 7 (XG 0).toArray M) (.seq (.cond (.tmp 37) .skip (.exit 0)) (.seq (.block 1 (.seq (.region 8 (XG 1).toArray M) (.region 9 (XG 2++XG 3).toArray M))) (.region 10 (XG 4).toArray M))):=kw
theorem zwK:(XG 3).map (λo=>(o.dst,o.op,o.guard.isNone,o.type))=[(Y 48,.mapEntry 91 (.tmp 40) (.tmp 44),Z,0),(Y 45,.extract (.tmp 48) 0,Z,36),(Y 49,.call {callee:=.builtin .append,args:=#[.tmp 45,.tmp 47],argTypes:=#[36,36]},Z,36),(Y 50,.extract (.tmp 48) 1,Z,3),(none,.entryStore 91 (.tmp 40) (.tmp 50) (.tmp 49),Z,0)]:=kw
theorem zm8:∃k,aq f13 7=.code FE::.inLoop FE::k:=⟨(aq f13 7).drop 2,kw⟩
abbrev tmB(l2:zr)(c:zy)(l:List (L ze.sl))(n i:Int)(x:List (Nat×AV)):List AV:=tm 86 ([(2,O R l2),(3,ptr 0 0),(6,ptr 1 0),(9,ptr 2 0),(10,J c),(11,AV.mp 3),(34,O ze.sl l),(35,J n),(36,J i)]++x)
abbrev hpB(z0:zq [CP.d zZ])(z1:zq nV)(z2:zq wZ):List AO:=[AO.box (bm [] [CP.d zZ] z0),AO.box (bm [] nV z1),AO.box (bm [] wZ z2)]
abbrev XF:List Nat:=[2,3,6,9,10,11,34,35,36]
section
variable {C:eU} {a:Act} {w:World} {U:Nat->Prop} {ρ:Nat->Option Value} {r c0:Nat} {gs:List (K3×Value)} {l2:List (L R)} {at':Int} {rows:List (List (L R))} {z0:zq [CP.d zZ]} {z1:zq nV} {z2:zq wZ} {n i:Int}
theorem zvp{α:Type}:∀l:List α,N l=5->∃a b c d e,l=[a,b,c,d,e]
 |[a,b,c,d,e],_=>⟨a,b,c,d,e,rfl⟩
theorem zo4{es:List (K3×List zr)}{k:K3}{row:zr}{tm':List AV}{Q:Exit->Act->World->Prop}(h:kD C ze.sl tm' (hpB z0 z1 z2) [] a w U ρ r c0 gs es)(hW:Wd fY.gl C w U)
  (F:tm'.getD 40 .any=.mp 3/\tm'.getD 44 .any=kav k/\tm'.getD 47 .any=.sl ze.sl [row]/\N tm'=86) (h5:∀q∈es,N q.2<=1000)
  (hQ:∀a' w' U' H j l,kD C ze.sl (vd XF tm') (hpB z0 z1 z2) [] a' w' U' ρ r c0 H ((vN (e:=ze.sl) es k).set j (k,l++[row]))->(vN (e:=ze.sl) es k)[j]?=Y (k,l)->Wd fY.gl C w' U'->Q .normal a' w') (hk:∀x∈[48,45,49,50],¬x∈XF):
  wpOps fY.P (XG 2++XG 3).toArray Q (List.range' (XG 2).length (XG 3).length) a w:=by
 have⟨t1,t2,t3,t4⟩:=F;have h1:=h.cn.tm.slot 40;have h9:=h.cn.tm.slot 44;have x0:=h.cn.tm.slot 47;rw[t1]at h1;rw[t2]at h9;rw[t3]at x0;have⟨x7,x9⟩:=AS h9;have h4:a.eval (.tmp 40)=.map (Y r):=by
  generalize a.eval (.tmp 40)=v at h1;cases h1 with
  | mp _ _ hv _=>
   have:=h.at_;rw[show(hpB z0 z1 z2).length=3 from rfl,hv]at this;cases this;rfl
 have hz:(prog.info? 36).map (λi=>i.zero)=Y (Y (.slice none 0 0)):=by kernel_rfl
 rw[dV]at hz;have⟨a7,hi,hz⟩:=hz;have⟨v,s,w1,v',w2,w3,U3,H,j,l,q1,q2,q3,q4,G3,c⟩:=h.gr.add (E:=fY) (mt:=91) (kt:=30) (et:=36) (elem:=39) gI.toEnvOk x9 kw kw hi hz kw kw (x:=row) x0 hW.ub h5 36;have⟨h3,x8⟩:=h.left hW c G3;have hs:=zwK;have a5:a.tmps.size=86:=by have:=h.cn.tm.len;simpa[t4]using this.symm
 generalize XG 3=x1 at hs|-;generalize XG 2=G;have a0:N x1=5:=by simpa using congrArg N hs
 obtain⟨o1,o2,o3,o4,o5,rfl⟩:=zvp x1 a0;simp only[er,oG,BJ,cQ,Option.isNone_iff_eq_none,and_true]at hs;have⟨⟨d1,p1,g1,_⟩,⟨d2,p2,g2,_⟩,⟨d3,p3,g3,y3⟩,⟨d4,p4,g4,_⟩,⟨d5,p5,g5,_⟩⟩:=hs;have y:∀j,(G++[o1,o2,o3,o4,o5]).toArray[N G+j]?=[o1,o2,o3,o4,o5][j]?:=λj=>by
  rw[Tg,pE S,Nat.add_sub_cancel_left]
 generalize(G++[o1,o2,o3,o4,o5]).toArray=a8 at y|-;generalize(N G)=u at y|-;have h2:(a.put (Y 48) (.tuple #[v,s])).eval (.tmp 48)=.tuple #[v,s]:=by rw[kI S,zf rfl]
 have x5:(a.put (Y 48) (.tuple #[v,s])).tmps.size=86:=by rw[G8,a5]
 generalize z:a.put (Y 48) (.tuple #[v,s])=a1 at h2 x5;have h6:∀t,t≠48->a1.eval (.tmp t)=a.eval (.tmp t):=λt F=>by rw[<-z,kI S,zh F]
 have x6:(a1.put (Y 45) v).tmps.size=86:=by rw[G8,x5]
 have x2:(a1.put (Y 45) v).eval (.tmp 45)=v:=by rw[kI S,zf rfl]
 generalize A:a1.put (Y 45) v=a2 at x2 x6;have h0:∀t,t≠45->a2.eval (.tmp t)=a1.eval (.tmp t):=λt F=>by rw[<-A,kI S,zh F]
 have a6:(a2.put (Y 49) v').tmps.size=86:=by rw[G8,x6]
 have x3:(a2.put (Y 49) v').eval (.tmp 49)=v':=by rw[kI S,zf rfl]
 generalize B:a2.put (Y 49) v'=a3 at x3 a6;have h7:∀t,t≠49->a3.eval (.tmp t)=a2.eval (.tmp t):=λt F=>by rw[<-B,kI S,zh F]
 have x4:(a3.put (Y 50) s).eval (.tmp 50)=s:=by rw[kI S,zf rfl]
 generalize D:a3.put (Y 50) s=a4 at x4;have h8:∀t,t≠50->a4.eval (.tmp t)=a3.eval (.tmp t):=λt F=>by rw[<-D,kI S,zh F]
 refine ux (v:=.tuple #[v,s]) (w':=w1) (y 0) g1 (HO p1 h4 x7 q1) ?_;rw[d1,z];refine ux (v:=v) (w':=w1) (y 1) g2 (xk p2 h2 rfl) ?_;rw[d2,A];refine ux (v:=v') (w':=w2) (y 2) g3 (Oe p3 x2 (by rw[h0 47 (by decide),h6 47 (by decide)]) (by rw[y3];exact q2)) ?_;rw[d3,B];refine ux (v:=s) (w':=w2) (y 3) g4 (xk p4 (by rw[h7 48 (by decide),h0 48 (by decide)];exact h2) rfl) ?_;rw[d4,D];refine S2 (w':=w3) (y 4) g5 (CC p5 (by rw[h8 40 (by decide),h7 40 (by decide),h0 40 (by decide),h6 40 (by decide)];exact h4) x4 (by rw[h8 49 (by decide)];exact x3) q3) ?_;rw[d5];refine hQ _ w3 U3 H j l (h3.slots ?_ (by rw[<-D,<-B,<-A,<-z];exact h3.cn.df)) q4 x8;have f1:=nI (d:=Y 48) h3.cn.tm (.any (.tuple #[v,s]));have f2:=nI (d:=Y 45) f1 (.any v);have f3:=nI (d:=Y 49) f2 (.any v');have f4:=Lp (ks:=XF) (nI (d:=Y 50) f3 (.any s));have e:vd XF (ng (ng (ng (ng tm' (Y 48) .any) (Y 45) .any) (Y 49) .any) (Y 50) .any)=vd XF tm':=by
  unfold vd ng;apply oB;intro j;simp only[List.getElem?_mapIdx];cases hb:XF.contains j with
  | true=>
   have hj:j∈XF:=by simpa using hb
   have ne:∀x∈[48,45,49,50],x≠j:=λx hx e=>hk x hx (e▸hj)
   rw[D0 (ne 50 sw),D0 (ne 49 sw),D0 (ne 45 sw),D0 (ne 48 sw)]
  | false=>
   by_cases hj:j<N tm'<;>simp[hj]
 rw[e,z,A,B,D]at f4;exact f4
theorem zgb(hn:n=(N rows:Int)){i:Nat}(t:i<N rows)(hl:N rows<=1000)(B:∀c∈rows,zK at' (N c)=Z)(h:kD C ze.sl (tmB l2 at' rows n (i:Int) []) (hpB z0 z1 z2) [] a w U ρ r c0 gs (dL at' (rows.take i)))(hW:Wd fY.gl C w U):
  FE.wp fY.P (λe a' w'=>e=.normal/\∃E ρ' r c0 A,kD C ze.sl (tmB l2 at' rows n ((i+1:Nat):Int) []) (hpB z0 z1 z2) [] a' w' E ρ' r c0 A (dL at' (rows.take (i+1)))/\Wd fY.gl C w' E) a w:=by
 obtain⟨c,s⟩:∃c,T rows (i:Int).toNat (zj ze.sl)=c:=⟨_,rfl⟩;have d:rows[i]=c:=by rw[<-s,zP _ _ t]
 rw[WO];refine wp_seq (wp_mono (kD.region gI (XF++[37]) (tm':=tmB l2 at' rows n (i:Int) [(37,AV.bool (K ((i:Int)<n)))]) (cs:=[]) h hW kw kw rfl) ?_);rintro e y w1 ⟨rfl,U1,ρ1,F,W1⟩;have z:y.eval (.tmp 37)=.bool Z:=by
  have D:Rv w1 U1 ρ1 (AV.bool (K ((i:Int)<n))) (y.eval (.tmp 37)):=F.cn.tm.slot 37;rw[hn,zM t]at D;generalize y.eval (.tmp 37)=v at D;cases D;rfl
 refine wp_seq (wp_cond_true z (wp_skip ?_));refine wp_seq (wp_block (wp_seq (wp_mono (kD.region gI (XF++[13]) (tm':=tmB l2 at' rows n (i:Int) [(13,O R (T rows (i:Int).toNat (zj ze.sl)))]) (cs:=[zK (i:Int) (N rows)]) F W1 kw kw (by rw[zu t];rfl)) ?_)));rintro e a2 w2 ⟨rfl,U2,ρ2,G,W2⟩;rw[s]at G;refine kD.ops gI (XF++[40,44,47]) (tm':=tmB l2 at' rows n (i:Int) [(40,.mp 3),(44,kav (zO at' c)),(47,.sl ze.sl [c])]) (cs:=[zK at' (N c)]) G W2 kw kw (by rw[B c (d▸bh t)];rfl) λa3 w3 U3 ρ3 h3 W3=>?_
 refine zo4 (k:=zO at' c) (row:=c) h3 W3 ⟨rfl,rfl,rfl,rfl⟩ (λq hq=>?_) (λa4 w4 U4 h0 j l u hj W4=>?_) (by decide)
 .obtain⟨x,_,rfl⟩:=bt.1 hq;exact aV (List.length_filter_le _ _) sg
 .rw[Ou hj]at u;have e1:rows.take i++[c]=rows.take (i+1):=by rw[aQ t,d]
  rw[e1]at u;have e2:vd XF (tmB l2 at' rows n (i:Int) [(40,.mp 3),(44,kav (zO at' c)),(47,.sl ze.sl [c])])=tmB l2 at' rows n (i:Int) []:=by kernel_rfl
  rw[e2]at u;refine wp_mono (kD.region gI XF (tm':=tmB l2 at' rows n (Γ Δ ((i:Int)+1)) []) (cs:=[]) u W4 kw kw rfl) ?_;rintro e a5 w5 ⟨rfl,U5,ρ5,H,W5⟩;rw[zt i um]at H;exact⟨rfl,U5,ρ5,_,_,_,H,W5⟩
end
section
variable {C:eU} {l2:List (L R)} {at':Int} {rows:List (List (L R))} {z0:zq [CP.d zZ]} {z1:zq nV} {z2:zq wZ} {Q:AV->List AO->Prop}
theorem zf6(v:N rows<=1000)(l:∀q∈rows,zK at' (N q)=Z)(h:Reach fY C 13 (aq f13 7) (V5 (.h7 l2 at' rows (N rows) (N rows) z0 z1 z2 (dL at' rows))).2 Q):
  Reach fY C 13 (aq f13 7) (V5 (.h7 l2 at' rows (N rows) 0 z0 z1 z2 [])).2 Q:=by
 have⟨k,u⟩:=zm8;rw[u]at h|-;refine wE.reach (wE.rounds (N rows) (λi a w=>∃U ρ r c0 gs,kD C ze.sl (tmB l2 at' rows (N rows) (i:Int) []) (hpB z0 z1 z2) [] a w U ρ r c0 gs (dL at' (rows.take i))/\Wd fY.gl C w U) (λi t a w ⟨U,ρ,r,c0,gs,x,c⟩=>zgb rfl t v l x c) (wE.of h λa w ⟨U,ρ,r,c0,gs,x,c⟩=>?_)) λa w U ρ j c=>?_
 .rw[eF]at x;have⟨s,j,d⟩:=Wy x c;exact⟨s,ρ,j,d⟩
 .have⟨r,c0,x⟩:=zfb (e:=ze.sl) (h1:=hpB z0 z1 z2) (h2:=[]) j;exact⟨U,ρ,r,c0,[],x,c⟩
end
def Fq(c:zY)(d:L zl.sl)(e:L ze.sl):Tr (Ku⊕ay):=(Wz c d e).bind λs=>match s with
 |.inl (.h7 l2 at' l n i z0 z1 z2 [])=>chk (i==0&&(n==(N l:Int)&&(K (N l<=1000)&&l.all λx:zr=>zK at' (N x)))) (.ok (.inl (.h7 l2 at' l n n z0 z1 z2 (dL at' l))))
 |.inl (.h7 ..)=>.err
 |s=>.ok s
def iL(x:zY)(c:L zl.sl)(d:L ze.sl):=am [zl,zk,zk] MN 100000000 (Fq x c d)
def pG(x:zY)(c:L zl.sl)(d:L ze.sl):=(iL x c d).isSome
def wO(x:zY)(c:L zl.sl)(d:L ze.sl):=o3 (iL x c d)
def zpN:=FT [zZ,zl.sl,ze.sl] [zl,zk,zk] λx=>iL x.1 x.2.1 x.q.1
theorem zks:FK 13 zpN:=by
 refine bb (E:=fY) (f:=f13) (cM kw) λx hx C G=>?_
 have⟨j,t,v,u⟩:=x;have H:aa fY.P 13 f13 3:=cM kw;have D:∀x,run fY 0 zjy f13.results.toList 400 (bv f13) (bl f13.ntmps (jj [Y zZ,Y zl.sl,Y ze.sl] x) [])=(Wz x.1 x.2.1 x.q.1).map (lf f13 V5):=by intro x;kernel_rfl
 have A:∀s,run fY 0 zjy f13.results.toList 400 (aq f13 (V5 s).1) (V5 s).2=(MN s).map (lf f13 V5):=by intro s;cases s<;>kernel_rfl
 have hx:(iL j t v).isSome=Z:=hx;have⟨y,c⟩:=Option.isSome_iff_exists.1 hx;show Reach fY C 13 _ _ (λr h=>aX h [zl,zk,zk] r=Y ((iL j t v).getD (ct [zl,zk,zk])));rw[c];show Reach fY C 13 _ _ (λr h=>aX h [zl,zk,zk] r=Y y);have z:(Fq j t v).val=(Wz j t v).val->Reach fY C 13 (bv f13) (bl f13.ntmps (jj [Y zZ,Y zl.sl,Y ze.sl] (j,t,v,u)) []) (λr h=>aX h [zl,zk,zk] r=Y y):=λe=>by
  refine Mr (n:=100000000) gI H (λid _=>G id) (D (j,t,v,u)) A ?_;unfold iL am bT at c;unfold am bT;rw[e]at c;exact c
 cases d:(Wz j t v).val with
 | none=>
  unfold iL am bT Fq at c;rw[Tr.val_bind,d]at c;cases c
 | some s=>
  match s,d with
  |.inr r,d=>exact z (by unfold Fq;rw[Tr.val_bind,d];rfl)
  |.inl (.h15 ..),d=>exact z (by unfold Fq;rw[Tr.val_bind,d];rfl)
  | .inl (.h7 l2 at' l n i z0 z1 z2 (p::es)),d=>
   unfold iL am bT Fq at c;rw[Tr.val_bind,d]at c;cases c
  | .inl (.h7 l2 at' l n i z0 z1 z2 []),d=>
   have e:(Fq j t v).val=(chk (i==0&&(n==(N l:Int)&&(K (N l<=1000)&&l.all λB:zr=>zK at' (N B)))) (.ok (.inl (.h7 l2 at' l n n z0 z1 z2 (dL at' l)))):Tr (Ku⊕ay)).val:=by
    unfold Fq;rw[Tr.val_bind,d];rfl
   unfold iL am bT at c;rw[e]at c;cases F:(i==0&&(n==(N l:Int)&&(K (N l<=1000)&&l.all λB:zr=>zK at' (N B))))with
   |false=>rw[F]at c;cases c
   | true=>
    rw[F]at c;simp only[aO,bX,bc,ep]at F;obtain⟨rfl,rfl,h3,h4⟩:=F;refine GM gI H (λid _=>G id) (D (j,t,v,u)) d (zf6 h3 h4 ?_);exact Mr (n:=99999999) (i:=MN (.h7 l2 at' l (N l) (N l) z0 z1 z2 (dL at' l))) gI H (λid _=>G id) (A (.h7 l2 at' l (N l) (N l) z0 z1 z2 (dL at' l))) A c
theorem Tw{e:Sh}(k:K3):∀(l:List K3)(x:List (K3×List (L e))),(x.map (·.1)).Nodup->lE (l.foldl nf x) k=if k∈l then[]else lE x k
 |[],x,_=>by rw[zh sw];rfl
 | a::r,x,hn=>by
  rw[List.foldl_cons,Tw k r _ (IA hn a),TQ hn];by_cases c:k∈r
  .rw[zf c,zf (np _ c)]
  .rw[zh c];by_cases d:k=a
   .rw[zf d,zf (by rw[d];exact uO)]
   .rw[zh d,zh (by rw[ce];exact λq=>q.elim d c)]
section
variable {db:List (L zl)} {p:L zZ} {us:List (L R)}
theorem zef(h:aw db p)(m:jG db p):To (p,zD db p)=Y (bI p (zD db p),()):=by
 have l:zK 0 (zD db p).length=Z:=zu (i:=0) (lL h.go.two).1;unfold bI;rcases h.mig with e|e|e
 .have x:(p.1==dp)=Z:=by rw[e];rfl
  rw[zf e];refine zQ (r:=(J (T (zD db p) 0 (zj zl)).1.q.1,[])) ?_ rfl;simp only[zfk,Q8,x,l,zi];rfl
 .have x:(p.1==dp)=M:=by rw[e];rfl
  have c:(p.1==fD)=Z:=by rw[e];rfl
  rw[zh (by rw[e];decide),zf e];refine zQ (r:=(J p.u,[])) ?_ rfl;simp only[zfk,Q8,x,c,zA,zi,zm]
 .have x:(p.1==dp)=M:=by rw[e];rfl
  have c:(p.1==fD)=M:=by rw[e];rfl
  have⟨_,a,b,j,_⟩:=m.group e;rw[zh (by rw[e];decide),zh (by rw[e];decide)];have d:zK 0 (N p.t.1)=Z:=by rw[j];rfl
  refine zQ (r:=(J (T p.t.1 0 (zj zk)),[])) ?_ rfl;simp only[zfk,Q8,x,c,d,zA,zi,zm];rfl
def r7(db:zT)(p:zY)(l:zr):List (K3×List zr):=l.foldl (nf (α:=List (L ze.sl))) (nf (α:=List (L ze.sl)) (dL (bI p (zD db p)) (cN db p).2) (0,0,[]))
theorem zas(h:aw db p)(l:zr)(u:zo):lE (e:=ze.sl) (r7 db p l) u=if u∈l then[]else sQ db p u:=by
 unfold r7;rw[Tw (e:=ze.sl) u l _ (IA (e:=ze.sl) xq _),TQ (e:=ze.sl) xq];split
 .rfl
 .rw[RN];by_cases c:u=(0,0,[])
  .rw[zf c,O2 (by rw[c])]
  .rw[zh c];unfold sQ;refine List.filter_congr λx d=>?_
   rw[oE,lF,bX];constructor
   .intro e;refine⟨e.symm,λs=>c ?_⟩;have:=(cq (h.rel.fits x d)).2.1 _ (h.at_mem d);have j:T x (Int.toNat (bI p (zD db p))) (zj R)=u:=e.symm;rw[j]at this;exact O0 this s
   .exact λq=>q.1.symm
theorem SH(h:aw db p)(m:jG db p):(Fq p (zD db p) us).val=Y (.inl (.h7 us (bI p (zD db p)) (cN db p).2 ((cN db p).2.length:Int) ((cN db p).2.length:Int) (p,()) ([],0,[],0,0,[],[],()) ((p,zD db p),()) (dL (bI p (zD db p)) (cN db p).2))):=by
 have⟨e,j⟩:=xH h.go;have u:zK 0 (zD db p).length=Z:=zu (i:=0) (lL h.go.two).1;have d:=zef h m;have l:Yk (p,zD db p)=Z:=by unfold Yk;rw[d];rfl
 have q:zmr (p,zD db p)=bI p (zD db p):=by unfold zmr;rw[d];rfl
 have t:(Wz p (zD db p) us).val=Y (.inl (.h7 us (bI p (zD db p)) (cN db p).2 ((cN db p).2.length:Int) 0 (p,()) ([],0,[],0,0,[],[],()) ((p,zD db p),()) [])):=by
  simp only[Wz,zn,aN,Q8,e,j,l,q,u,gj,zA,zi,zm];rfl
 have c:((0:Int)==0&&(((cN db p).2.length:Int)==((cN db p).2.length:Int)&&(K ((cN db p).2.length<=1000)&&(cN db p).2.all λx:zr=>zK (bI p (zD db p)) (N x))))=Z:=by
  have:=h.rel.few;simp only[BEq.rfl,eW,aO,bc,ep];exact⟨S,λx s=>(h.inn x s).1⟩
 unfold Fq;rw[Tr.val_bind,t];show(chk _ _).val=_;rw[Q8,zf c];rfl
theorem zb9(h:aw db p)(m:jG db p)(hl:N us<=1000){l:List zr}(B:Bi (p.r.1,(bZ us).flatMap (cA db p))=Y ((p.r.1,l),())):
  iL p (zD db p) us=Y ((p.r.1,l),((fg db p (bZ us):Nat):Int),0,()):=by
 have hs:=SH (us:=us) h m;have g0:zG MN 1 (.h7 us (bI p (zD db p)) (cN db p).2 ((cN db p).2.length:Int) ((cN db p).2.length:Int) (p,()) ([],0,[],0,0,[],[],()) ((p,zD db p),()) (dL (bI p (zD db p)) (cN db p).2)) (.h15 ((fg db p (bZ (us.take 0)):Nat):Int) us (N us:Int) ((0:Nat):Int) ([],0,[],0,0,[],[],()) ((p,zD db p),()) (p.r.1,(bZ (us.take 0)).flatMap (cA db p),()) (r7 db p (us.take 0))):=zG.of (by
  simp only[MN,Q8,zJ,zA,zm];rfl)
 have y:=zG.all (t:=MN) 1 (λi=>.h15 ((fg db p (bZ (us.take i)):Nat):Int) us (N us:Int) (i:Int) ([],0,[],0,0,[],[],()) ((p,zD db p),()) (p.r.1,(bZ (us.take i)).flatMap (cA db p),()) (r7 db p (us.take i))) (N us) λi A=>zG.of (by
  have⟨g1,g2⟩:=ka h (bZ (us.take i)) (iR _);have j:nf (α:=List (L ze.sl)) (r7 db p (us.take i)) us[i]=r7 db p (us.take (i+1)):=by
   unfold r7;rw[aQ A,List.foldl_append];rfl
  have z:=zas h (us.take i) us[i];have d:Ea (p,zD db p) us[i] (lE (e:=ze.sl) (r7 db p (us.take i)) us[i])=Y (ite (us[i]∈us.take i) [] (cA db p us[i]),((ite (us[i]∈us.take i) 0 (lC db p us[i]):Nat):Int),()):=by
   rw[z];split
   .exact ze1 h m _
   .exact ZA h m _
  have G:Iw (p,zD db p) us[i] (lE (e:=ze.sl) (r7 db p (us.take i)) us[i])=Z:=by unfold Iw;rw[d];rfl
  have H:VO (p,zD db p) us[i] (lE (e:=ze.sl) (r7 db p (us.take i)) us[i])=(ite (us[i]∈us.take i) [] (cA db p us[i]),((ite (us[i]∈us.take i) 0 (lC db p us[i]):Nat):Int)):=by unfold VO;rw[d];rfl
  have e:=r9 (us.take i) us[i];rw[O6]at e;have c:((us.take i).any λu=>qD u us[i])=Z↔us[i]∈us.take i:=by
   rw[List.any_eq_true];exact⟨λ⟨u,h1,h2⟩=>jE.1 h2▸h1,λq=>⟨_,q,jE.2 rfl⟩⟩
  have D:(cA db p us[i]).length<=200:=aV Fo (aV (List.length_filter_le _ _) h.rel.few);have h0:lC db p us[i]<=200:=by
   have:=FP (db:=db) (p:=p) (v:=us[i]);have:(sQ db p us[i]).length<=(cN db p).2.length:=List.length_filter_le _ _;have:=h.rel.few;unfold lC;omega
  have F:∀k:List zr,N k<=200->K (((bZ (us.take i)).flatMap (cA db p)).length+N k<=1073741824)=Z:=λk hk=>zC S
  simp only[MN,Q8,zn,aN,zM A,zu A,zP _ _ A,G,H,zi];rw[zt i um,j,aQ A,e];by_cases x:us[i]∈us.take i
  .rw[zf (c.2 x),zf x,zf x,rx,zf (F [] (aK _))];have E:Γ Δ (((fg db p (bZ (us.take i)):Nat):Int)+((0:Nat):Int))=((fg db p (bZ (us.take i)):Nat):Int):=by rw[fe];omega
   rw[E]
  .rw[zh (λq=>x (c.1 q)),zh x,zh x,List.flatMap_append,List.flatMap_singleton,zf (F _ D)];have hb:fg db p (bZ (us.take i)++[us[i]])=fg db p (bZ (us.take i))+lC db p us[i]:=by
    unfold fg;rw[gm,List.sum_append];simp
   have E:Γ Δ (((fg db p (bZ (us.take i)):Nat):Int)+((lC db p us[i]:Nat):Int))=((fg db p (bZ (us.take i))+lC db p us[i]:Nat):Int):=by rw[fe];omega
   rw[E,hb])
 simp only[eF]at y;generalize(bZ us).flatMap (cA db p)=rows at y B;generalize fg db p (bZ us)=n at y|-;generalize r7 db p us=P at y;have s1:Sy (p.r.1,rows)=Z:=by unfold Sy;rw[B];rfl
 have s2:zbN (p.r.1,rows)=(p.r.1,l):=by unfold zbN;rw[B];rfl
 have s:∃r,zV MN 1 (.h15 (n:Int) us (N us:Int) (N us:Int) ([],0,[],0,0,[],[],()) ((p,zD db p),()) (p.r.1,rows,()) P) r/\aX r.2 [zl,zk,zk] r.1=Y ((p.r.1,l),(n:Int),0,()):=by
  refine⟨_,zV.of (by
   simp only[MN,Q8,zn,aN,zJ,s1,s2,zA,zi,zm];rfl),?_⟩
  show Y (((p.r.1.1,p.r.1.2.1,p.r.1.q.1,p.r.1.r.1,p.r.1.t.1,zw p.r.1.u),l),(n:Int),0,())=_;rw[zn]
 have⟨r,r1,r2⟩:=s;exact zz hs ((g0.trans y).ends r1) S r2
end
def Zj:=Zi.add 13 zpN
theorem EK:zx Zj:=I8.add zks
def zfd(x:zY)(j:L zl.sl):Tr (Empty⊕ay):=
 let d:=(x.1,x.2.1,x.q.1,(x.r.1.1,x.r.1.2.1,x.r.1.q.1,x.r.1.r.1,x.r.1.t.1,zw x.r.1.u),x.t)
 let e:=zct d j
 let c:=wO d j e.1
 chk (SY d j)
 (br (e.2!=0)
  (re (tup [agg ([X [],nils,J 0,nils,nils]++zE++[nils]),J 0,J e.2]) [])
  (chk (pG d j e.1) (re (tup [agg ([X c.1.1.1,O zp c.1.1.2.1,J c.1.1.q.1,O zk c.1.1.r.1,O zI c.1.1.t.1]++xE c.1.1.u++[O ze.sl c.1.2]),J c.2.1,J c.q]) [])))
def Iv(x:zY)(c:L zl.sl):=am [zl,zk,zk] t0 100000000 (zfd x c)
def Yj(x:zY)(c:L zl.sl):=(Iv x c).isSome
def Cx(x:zY)(c:L zl.sl):=o3 (Iv x c)
def zpw:=FT [zZ,zl.sl] [zl,zk,zk] λx=>Iv x.1 x.2.1
theorem zkb:FK 10 zpw:=EK.T1 (f:=f10) (keep:=k0) (e:=e0)
def ziO:=Zj.add 10 zpw
theorem I9:zx ziO:=EK.add zkb
set_option maxHeartbeats 2000000
theorem wI(x:Int)(c:-4000000000<=x)(d:x<=4000000000):Γ Δ x=x:=by rw[fe];omega
theorem wU(x:Int)(c:0<=x)(d:x<=4000000000):IntKind.u64.wrap x=x:=by simp only[IntKind.wrap,IntKind.bits,IntKind.signed];simp;omega
def eY(k:Int)(r:zr):zo:=bif (cond (K (k<0)) Z (K (k>=(N r:Int))))then(0,0,[])else T r k.toNat (zj R)
def ma(k:Int)(a b:zr):Prop:=qE (eY k a) (eY k b)
variable {k:Int}
theorem Xn{a b:zr}(h:ma k a b):¬ma k b a:=λg=>eB (em h g)
theorem zgm{r:zr}(h:zK k (N r)=Z):eY k r=zO k r:=by grind[zK,eY]
def Kp(k:Int)(x l:List zr):Prop:=l.Perm x/\(x.Pairwise (ma k)->l=x)
variable {l:List zr}
theorem Kp.refl:Kp k l l:=⟨.refl l,λ_=>rfl⟩
variable {x:List zr}
theorem Kp.len(h:Kp k l x):N x=N l:=h.1.length_eq
theorem Kp.trans{d c:List zr}(h:Kp k d l)(g:Kp k l c):Kp k d c:=⟨g.1.trans h.1,λx=>by
 have e:=h.2 x;subst e;exact g.2 x⟩
theorem Kp.perm(d:x.Perm l)(c:¬l.Pairwise (ma k)):Kp k l x:=⟨d,λe=>zB e c⟩
variable {i j:Nat}
theorem jc{α:Type}{l:List α}(x:i<N l)(c:j<N l)(d:α):((l.set j (l.getD i d)).set i (l.getD j d)).Perm l:=by grind[List.set_set_perm]
theorem zbr(h:l.Pairwise (ma k))(x:i<j)(c:j<N l)(d:zr):ma k (l.getD i d) (l.getD j d):=by grind[List.pairwise_iff_getElem]
theorem C8(x:i<j)(e:j<N l)(d:zr)(c:ma k (l.getD j d) (l.getD i d)):¬l.Pairwise (ma k):=λq=>Xn c (zbr q x e d)
theorem AN(h:j<i):K ((i:Int)>(j:Int))=Z:=by simpa using h
theorem TR(n:Nat):K ((n:Int)>(n:Int))=M:=by simp
theorem eK(h:¬i<j):K ((i:Int)<(j:Int))=M:=by simpa using h
theorem iq(k:Int)(x y:zr):
  (bif (cond (K (k<0)) Z (K (k>=(N x:Int))))then bif (cond (K (k<0)) Z (K (k>=(N y:Int))))then an (0,0,[]) (0,0,[])else an (0,0,[]) (T y k.toNat (zj R))
   else bif (cond (K (k<0)) Z (K (k>=(N y:Int))))then an (T x k.toNat (zj R)) (0,0,[])else an (T x k.toNat (zj R)) (T y k.toNat (zj R)))=an (eY k x) (eY k y):=by grind[eY]
theorem znE(k:Int)(x:zr):(cond (cond (K (k<0)) Z (K (k>=(N x:Int)))) Z (zK k (N x)))=Z:=by grind[zK]
theorem eZ(k:Int)(x y:zr):(bif (cond (K (k<0)) Z (K (k>=(N x:Int))))then(cond (cond (K (k<0)) Z (K (k>=(N y:Int)))) Z (zK k (N y)))
  else zK k (N x)&&(cond (cond (K (k<0)) Z (K (k>=(N y:Int)))) Z (zK k (N y))))=Z:=by grind[znE]
theorem Z7(s:List zr)(a b i:Nat)(k:Int)(hn:N s<=1000)(hi:i<1000):∀(m j:Nat)(l:List zr),j=a+m->j<N l->Kp k s l->
  ∃d,Kp k s d/\zG kS (m+1) (.h4 (a:Int) (b:Int) k (i:Int) (j:Int) l) (.h1 (a:Int) (b:Int) k ((i+1:Nat):Int) d):=by
 intro m
 induction m with
 | zero=>
  intro j l hj c x;refine⟨l,x,zG.of ?_⟩;obtain rfl:j=a:=by omega
  simp only[kS,Q8,TR,aJ,zA,zm,zi,zt i um]
 | succ m A=>
  intro j l hj c x;obtain⟨j,rfl⟩:∃j',j=j'+1:=⟨j-1,S⟩;have z:=x.len;have B:K (((j+1:Nat):Int)>(a:Int))=Z:=AN S;have D:zK ((j+1:Nat):Int) (N l)=Z:=zu c;have E:K (j+1<N l)=Z:=by simpa using c
  have t:Γ Δ (((j+1:Nat):Int)-1)=(j:Int):=gS j um;have u:zK (j:Int) (N l)=Z:=zu S;have v:K (j<N l)=Z:=by simp;omega
  have F:zK (j:Int) (l.set (j+1) (l.getD j (zj ze.sl))).length=Z:=by rw[nt];exact u
  have G:K (j<(l.set (j+1) (l.getD j (zj ze.sl))).length)=Z:=by rw[nt];exact v
  by_cases e:ma k (l.getD (j+1) (zj ze.sl)) (l.getD j (zj ze.sl))
  .have q:Kp k l ((l.set (j+1) (l.getD j (zj ze.sl))).set j (l.getD (j+1) (zj ze.sl))):=Kp.perm (jc S c _) (C8 (i:=j) (j:=j+1) S c _ e);have⟨d,H,P⟩:=A j _ S sg (x.trans q);refine⟨d,H,((zG.of ?_).trans P).mono S⟩;have y:K (LT.lt (α:=Int) (an (eY k (l.getD (j+1) (zj ze.sl))) (eY k (l.getD j (zj ze.sl)))) 0)=Z:=zC e;simp only[kS,Q8,t,aI];rw[eZ,iq];simp_all
  .refine⟨l,x,(zG.of ?_).mono S⟩;have y:K (LT.lt (α:=Int) (an (eY k (l.getD (j+1) (zj ze.sl))) (eY k (l.getD j (zj ze.sl)))) 0)=M:=aC e;simp only[kS,Q8,t,aI];rw[eZ,iq];simp only[B,D,E,u,v,y,F,G,aG,nu,zi,zA,zm,zt i um]
theorem Z6(x:List zr)(a b:Nat)(k:Int)(v:N x<=1000)(z:b<=N x):∀(m i:Nat)(l:List zr),b-i=m->a<=i->Kp k x l->
  ∃c,Kp k x c/\zV kS (m*1002+1) (.h1 (a:Int) (b:Int) k (i:Int) l) (.tup [],[.vec ze.sl c]):=by
 intro m
 induction m with
 | zero=>
  grind[zV.of,kS,Q8]
 | succ m j=>
  intro i l B A d;have e:=d.len;have⟨y,q,s⟩:=Z7 x a b i k v S (i-a) i l S S d;have⟨c,t,u⟩:=j (i+1) y S S q;refine⟨c,t,((zG.of ?_).trans s |>.ends u).mono S⟩;grind[kS,Q8]
theorem Fv(l:List zr)(a b:Nat)(k:Int)(q:N l<=1000)(s:a<=N l)(j:b<=N l):∃x,rX l a b k=Y x/\Kp k l x:=by
 have⟨x,c,d⟩:=Z6 l a b k q j (b-(a+1)) (a+1) l rfl S Kp.refl;refine⟨x,?_,c⟩;have:Fu l a b k=Y (.tup [],[.vec ze.sl x]):=by
  unfold Fu bT OA;rw[zt a um];have e:b-(a+1)<=1000:=by omega
  exact d 100000000 (aV (Nat.succ_le_succ (fM 1002 e)) (by decide))
 unfold rX;rw[this];rfl
theorem zo7(x:List zr)(a b n:Nat)(G:N x<=1000)(B:a+n<=N x)(D:b+n<=N x):∀(m i:Nat)(l:List zr),n-i=m->i<=n->l.Perm x->
  ∃c,c.Perm x/\zV yL (m+1) (.h1 (a:Int) (b:Int) (n:Int) (i:Int) l) (.tup [],[.vec ze.sl c]):=by
 intro m
 induction m with
 | zero=>
  grind[zV.of,yL,Q8]
 | succ m q=>
  intro i l F E e;have d:=e.length_eq;have e0:Γ Δ ((b:Int)+(i:Int))=((b+i:Nat):Int):=by rw[wI _ S S];omega
  have s:Γ Δ ((a:Int)+(i:Int))=((a+i:Nat):Int):=by rw[wI _ S S];omega
  have t:zK ((a+i:Nat):Int) (N l)=Z:=zu S;have u:zK ((b+i:Nat):Int) (N l)=Z:=zu S;have v:K (a+i<N l)=Z:=by simp;omega
  have y:K (b+i<N l)=Z:=by simp;omega
  have⟨c,z,A⟩:=q (i+1) ((l.set (a+i) (l.getD (b+i) (zj ze.sl))).set (b+i) (l.getD (a+i) (zj ze.sl))) S S ((jc (i:=b+i) (j:=a+i) S S _).trans e);refine⟨c,z,((zG.of ?_).ends A).mono S⟩;simp only[yL,Q8,zM (show i<n by omega),e0,s,t,u,v,y,aI,nt,zi,zt i um]
theorem SN(l:List zr)(a b n:Nat)(k:Int)(q:N l<=1000)(e:a+n<=N l)(j:b+n<=N l):∃x,ML l a b n k=Y x/\x.Perm l:=by have⟨x,c,d⟩:=zo7 l a b n q e j n 0 l rfl S (.refl l);refine⟨x,?_,c⟩;have:zo6 l a b n k=Y (.tup [],[.vec ze.sl x]):=d 100000000 S;unfold ML;rw[this];rfl
theorem zoS(e:List zr)(m:Nat)(k:Int)(H:N e<=1000):∀(s i j:Nat)(l:List zr),i+j<=s->1<=i->1<=j->i<=m->m+j<=N e->l.Perm e->
  ∃x,x.Perm e/\zV sK (s+1) (.h2 (m:Int) k (i:Int) (j:Int) l) (.tup [],[.vec ze.sl x]):=by
 intro s
 induction s with
 |zero=>intro i j l h y;omega
 | succ s v=>
  intro i j l P y D E F d;have z:=d.length_eq;have e0:Γ Δ ((m:Int)-(i:Int))=((m-i:Nat):Int):=by rw[wI _ S S];omega
  rcases Nat.lt_trichotomy i j with h|h|h
  .have⟨c,A,q⟩:=SN l (m-i) (m+j-i) i k S S S;have⟨x,t,u⟩:=v i (j-i) c S y S E S (q.trans d);refine⟨x,t,((zG.of ?_).ends u).mono S⟩;have B:((i:Int)!=(j:Int))=Z:=by simp;omega
   have G:K ((i:Int)>(j:Int))=M:=by simp;omega
   grind[wI,sK,Q8]
  .subst h;have⟨c,A,q⟩:=SN l (m-i) m i k S S S;refine⟨c,q.trans d,(zV.of ?_).mono S⟩;grind[sK,Q8]
  .have⟨c,A,q⟩:=SN l (m-i) m j k S S S;have⟨x,t,u⟩:=v (i-j) j c S S D S F (q.trans d);refine⟨x,t,((zG.of ?_).ends u).mono S⟩;have B:((i:Int)!=(j:Int))=Z:=by simp;omega
   grind[wI,sK,Q8]
theorem zoT(l:List zr)(a m b:Nat)(k:Int)(e:N l<=1000)(j:a<m)(s:m<b)(q:b<=N l):∃x,Mu l a m b k=Y x/\x.Perm l:=by
 have⟨x,c,d⟩:=zoS l m k e ((m-a)+(b-m)) (m-a) (b-m) l (zR _) S S S S (.refl l);refine⟨x,?_,c⟩;have:zbW l a m b k=Y (.tup [],[.vec ze.sl x]):=by
  unfold zbW bT OB;rw[show Γ Δ ((m:Int)-(a:Int))=((m-a:Nat):Int) by rw[wI _ S S];omega,show Γ Δ ((b:Int)-(m:Int))=((b-m:Nat):Int) by rw[wI _ S S];omega];exact d 100000000 S
 unfold Mu;rw[this];rfl
theorem nD(i j:Nat)(h:i+j<=4000000):Γ Δ (IntKind.u64.wrap (Γ Δ ((i:Int)+(j:Int)))/2)=(((i+j)/2:Nat):Int):=by rw[wI ((i:Int)+(j:Int)) S S,wU _ S S,wI _ S S];omega
section
variable (o:SM) (k:Int)
theorem zwD(l:List zr)(a m b:Nat)(hn:N l<=1000)(ha:a<m)(hb:b<=N l):∀(s i j:Nat),j-i<=s->m<=i->i<=j->j<=b->(i=m\/¬l.Pairwise (ma k))->
  ∃x,m<=x/\x<=b/\(x=m\/¬l.Pairwise (ma k))/\zG (cv o) (s+1) (.h3 (a:Int) k (i:Int) (j:Int) l) (.h9 (x:Int) (a:Int) l):=by
 intro s
 induction s with
 | zero=>
  intro i j H d P G e;refine⟨i,d,S,e,zG.of ?_⟩;simp only[cv,Q8,eK (show¬i<j by omega),zA,zm]
 | succ s A=>
  intro i j H d P G e;by_cases c:i<j
  case neg=>
   refine⟨i,d,S,e,(zG.of ?_).mono S⟩;simp only[cv,Q8,eK c,zA,zm]
  have e0:=nD i j S;have hh:i<=(i+j)/2/\(i+j)/2<j:=by omega
  generalize(i+j)/2=h at e0 hh;have B:zK ((h:Nat):Int) (N l)=Z:=zu S;have D:K (h<N l)=Z:=by simp;omega
  have E:zK ((a:Nat):Int) (N l)=Z:=zu S;have F:K (a<N l)=Z:=by simp;omega
  by_cases t:ma k (l.getD h (zj ze.sl)) (l.getD a (zj ze.sl))
  .have⟨x,u,v,y,z⟩:=A (h+1) j S S S G (.inr (C8 (i:=a) (j:=h) S S _ t));refine⟨x,u,v,y,((zG.of ?_).trans z).mono S⟩;have q:K (LT.lt (α:=Int) (an (eY k (l.getD h (zj ze.sl))) (eY k (l.getD a (zj ze.sl)))) 0)=Z:=zC t;simp only[cv,Q8,e0,aI];rw[eZ,iq];simp only[zM c,B,D,E,F,q,zi,zt h um]
  .have⟨x,u,v,y,z⟩:=A i h S d S S e;refine⟨x,u,v,y,((zG.of ?_).trans z).mono S⟩;have q:K (LT.lt (α:=Int) (an (eY k (l.getD h (zj ze.sl))) (eY k (l.getD a (zj ze.sl)))) 0)=M:=aC t;simp only[cv,Q8,e0,aI];rw[eZ,iq];simp only[zM c,B,D,E,F,q,zi,zA,zm]
theorem zwE(e:List zr)(i:Nat)(H:N e<=1000)(G:i<=N e):∀(s c:Nat)(l:List zr),i-c<=s->l.Perm e->
  ∃d,d.Perm e/\((i<=c+1)->d=l)/\zV (cv o) (s+1) (.h9 (i:Int) (c:Int) l) (.tup [],[.vec ze.sl d]):=by
 intro s
 induction s with
 | zero=>
  intro c l B x;refine⟨l,x,λ_=>rfl,zV.of ?_⟩;have e0:K ((c:Int)<Γ Δ ((i:Int)-1))=M:=by
   by_cases A:i=0
   .subst A;rw[wI _ S S];simp only[ed];omega
   .rw[wI _ S S];simp only[ed];omega
  simp only[cv,Q8,e0,zA,zm]
 | succ s t=>
  intro c l B x;have q:=x.length_eq;by_cases F:c+1<i
  case neg=>
   refine⟨l,x,λ_=>rfl,(zV.of ?_).mono S⟩;have e0:K ((c:Int)<Γ Δ ((i:Int)-1))=M:=by
    rw[wI _ S S];simp only[ed];omega
   simp only[cv,Q8,e0,zA,zm]
  have e0:K ((c:Int)<Γ Δ ((i:Int)-1))=Z:=by
   rw[wI _ S S];simp only[bc];omega
  have u:zK ((c+1:Nat):Int) (N l)=Z:=zu S;have v:zK ((c:Nat):Int) (N l)=Z:=zu S;have y:K (c+1<N l)=Z:=by simp;omega
  have z:K (c<N l)=Z:=by simp;omega
  have⟨d,D,_,E⟩:=t (c+1) ((l.set c (l.getD (c+1) (zj ze.sl))).set (c+1) (l.getD c (zj ze.sl))) S ((jc (i:=c+1) (j:=c) S S _).trans x);refine⟨d,D,λh=>by omega,((zG.of ?_).ends E).mono S⟩;simp only[cv,Q8,e0,zt c um,u,v,y,z,aI,nt,zi]
theorem zoX(l:List zr)(a m:Nat)(hn:N l<=1000)(hm:m<N l):∀(s i j:Nat),j-i<=s->a<=i->i<=j->j<=m->(j=m\/¬l.Pairwise (ma k))->
  ∃x,a<=x/\x<=m/\(x=m\/¬l.Pairwise (ma k))/\zG (cv o) (s+1) (.h15 (m:Int) k (i:Int) (j:Int) l) (.h21 (x:Int) (m:Int) l):=by
 intro s
 induction s with
 | zero=>
  intro i j H d P G e;refine⟨i,d,S,e.imp (λh=>by omega) id,zG.of ?_⟩;simp only[cv,Q8,eK (show¬i<j by omega),zA,zm]
 | succ s A=>
  intro i j H d P G e;by_cases c:i<j
  case neg=>
   refine⟨i,d,S,e.imp (λh=>by omega) id,(zG.of ?_).mono S⟩;simp only[cv,Q8,eK c,zA,zm]
  have e0:=nD i j S;have hh:i<=(i+j)/2/\(i+j)/2<j:=by omega
  generalize(i+j)/2=h at e0 hh;have B:zK ((h:Nat):Int) (N l)=Z:=zu S;have D:K (h<N l)=Z:=by simp;omega
  have E:zK ((m:Nat):Int) (N l)=Z:=zu S;have F:K (m<N l)=Z:=by simp;omega
  by_cases t:ma k (l.getD m (zj ze.sl)) (l.getD h (zj ze.sl))
  .have⟨x,u,v,y,z⟩:=A i h S d S S (.inr (C8 (i:=h) (j:=m) S S _ t));refine⟨x,u,v,y,((zG.of ?_).trans z).mono S⟩;have q:K (LT.lt (α:=Int) (an (eY k (l.getD m (zj ze.sl))) (eY k (l.getD h (zj ze.sl)))) 0)=Z:=zC t;simp only[cv,Q8,e0,aI];rw[eZ,iq];simp only[zM c,B,D,E,F,q,zi,bW,zA,zm]
  .have⟨x,u,v,y,z⟩:=A (h+1) j S S S G e;refine⟨x,u,v,y,((zG.of ?_).trans z).mono S⟩;have q:K (LT.lt (α:=Int) (an (eY k (l.getD m (zj ze.sl))) (eY k (l.getD h (zj ze.sl)))) 0)=M:=aC t;simp only[cv,Q8,e0,aI];rw[eZ,iq];simp only[zM c,B,D,E,F,q,zi,dd,zt h um]
theorem zoY(e:List zr)(i:Nat)(P:N e<=1000):∀(s c:Nat)(l:List zr),c-i<=s->c<N e->l.Perm e->
  ∃d,d.Perm e/\(c<=i->d=l)/\zV (cv o) (s+1) (.h21 (i:Int) (c:Int) l) (.tup [],[.vec ze.sl d]):=by
 intro s
 induction s with
 | zero=>
  intro c l E q x;refine⟨l,x,λ_=>rfl,zV.of ?_⟩;have e0:K ((c:Int)>(i:Int))=M:=by simp;omega
  simp only[cv,Q8,e0,zA,zm]
 | succ s u=>
  intro c l E q x;have t:=x.length_eq;by_cases F:i<c
  case neg=>
   refine⟨l,x,λ_=>rfl,(zV.of ?_).mono S⟩;have e0:K ((c:Int)>(i:Int))=M:=by simp;omega
   simp only[cv,Q8,e0,zA,zm]
  obtain⟨c,rfl⟩:∃v,c=v+1:=⟨c-1,S⟩;have e0:K (((c+1:Nat):Int)>(i:Int))=Z:=AN F;have y:zK ((c+1:Nat):Int) (N l)=Z:=zu S;have z:zK ((c:Nat):Int) (N l)=Z:=zu S;have A:K (c+1<N l)=Z:=by simp;omega
  have B:K (c<N l)=Z:=by simp;omega
  have D:Γ Δ (((c+1:Nat):Int)-1)=(c:Int):=gS c um;have⟨d,G,_,H⟩:=u c ((l.set (c+1) (l.getD c (zj ze.sl))).set c (l.getD (c+1) (zj ze.sl))) S S ((jc (i:=c) (j:=c+1) S S _).trans x);refine⟨d,G,λh=>by omega,((zG.of ?_).ends H).mono S⟩;simp only[cv,Q8,e0,D,y,z,A,B,aI,nt,zi]
end
section
variable (o:SM) (k:Int)
theorem zb6(l:List zr)(a m b mid n p z d:Nat)(hn:N l<=1000)(h0:d<=1000)(hp:p<=2000)(hB:∀c,z<=c->c<d->c+c<p/\p<N l+c):∀(s i j:Nat),j-i<=s->z<=i->i<=j->j<=d->(j=d\/¬l.Pairwise (ma k))->
  ∃x,z<=x/\x<=d/\(x=d\/¬l.Pairwise (ma k))/\zG (cv o) s (.h33 (a:Int) (m:Int) (b:Int) k (mid:Int) (n:Int) (i:Int) (j:Int) (p:Int) l) (.h33 (a:Int) (m:Int) (b:Int) k (mid:Int) (n:Int) (x:Int) (x:Int) (p:Int) l):=by
 intro s
 induction s with
 | zero=>
  intro i j h1 q h3 t u;obtain rfl:i=j:=by omega
  exact⟨i,q,t,u,zG.refl _⟩
 | succ s F=>
  intro i j h1 q h3 t u;by_cases e:i<j
  case neg=>
   obtain rfl:i=j:=by omega
   exact⟨i,q,t,u,(zG.refl _).mono S⟩
  have e0:=nD i j S;have hh:i<=(i+j)/2/\(i+j)/2<j:=by omega
  generalize(i+j)/2=h at e0 hh;have⟨b1,b2⟩:=hB h S S;have e5:Γ Δ ((p:Int)-(h:Int))=((p-h:Nat):Int):=by rw[wI _ S S];omega
  have G:zK ((h:Nat):Int) (N l)=Z:=zu S;have H:K (h<N l)=Z:=by simp;omega
  have P:zK ((p-h:Nat):Int) (N l)=Z:=zu S;have e4:K (p-h<N l)=Z:=by simp;omega
  by_cases y:ma k (l.getD (p-h) (zj ze.sl)) (l.getD h (zj ze.sl))
  .have⟨x,A,B,D,E⟩:=F i h S q S S (.inr (C8 (i:=h) (j:=p-h) S S _ y));refine⟨x,A,B,D,((zG.of ?_).trans E).mono S⟩;have v:K (LT.lt (α:=Int) (an (eY k (l.getD (p-h) (zj ze.sl))) (eY k (l.getD h (zj ze.sl)))) 0)=Z:=zC y;simp only[cv,Q8,e0,e5,aI];rw[eZ,iq];simp only[zM e,G,H,P,e4,v,zi,bW,zA,zm]
  .have⟨x,A,B,D,E⟩:=F (h+1) j S S S t u;refine⟨x,A,B,D,((zG.of ?_).trans E).mono S⟩;have v:K (LT.lt (α:=Int) (an (eY k (l.getD (p-h) (zj ze.sl))) (eY k (l.getD h (zj ze.sl)))) 0)=M:=aC y;simp only[cv,Q8,e0,e5,aI];rw[eZ,iq];simp only[zM e,G,H,P,e4,v,zi,dd,zt h um]
theorem Ts{a b c d:Nat}:(cond (K ((a:Int)<(b:Int))) (K ((c:Int)<(d:Int))) M)=K (a<b/\c<d):=by
 by_cases h:a<b
 .have:K ((a:Int)<(b:Int))=Z:=by simpa using h
  rw[this];simp[h]
 .have:K ((a:Int)<(b:Int))=M:=by simpa using h
  rw[this];simp[h]
theorem zb5{D:Nat}(E:∀(l:List zr)(a m b:Nat),N l<=1000->a<m->m<b->b<=N l->b-a<=D->∃u,o l a m b k=Y u/\Kp k l u)(l:List zr)(a m b mid n st en:Nat)(p:Int)(A:N l<=1000)(hb:b<=N l)(he:n=st+en)(_:n<=2000)
  (_:a<=st) (h2:en<=b) (G:mid-a<=D) (H:b-mid<=D) (P:mid<=b) (hr:st<m->m<en->¬l.Pairwise (ma k)):
  ∃u,Kp k l u/\(cv o (.h33 (a:Int) (m:Int) (b:Int) k (mid:Int) (n:Int) (st:Int) (st:Int) p l)).val=Y (.inr (.tup [],[.vec ze.sl u])):=by
 have e0:Γ Δ ((n:Int)-(st:Int))=(en:Int):=by rw[wI _ S S];omega
 have F:K ((st:Int)<(st:Int))=M:=by simp
 obtain⟨e,v,t⟩:∃e,Kp k l e/\(ite (st<m/\m<en) (Mu l st m en k=Y e) (e=l)):=by
  by_cases h:st<m/\m<en
  .have⟨e,y,z⟩:=zoT l st m en k A h.1 h.2 S;exact⟨e,Kp.perm z (hr h.1 h.2),by rw[zf h];exact y⟩
  .exact⟨l,Kp.refl,by rw[zh h]⟩
 obtain⟨l2,B,q⟩:∃l2,Kp k e l2/\(ite (a<st/\st<mid) (o e a st mid k=Y l2) (l2=e)):=by
  by_cases h:a<st/\st<mid
  .have⟨l2,y,z⟩:=E e a st mid (by rw[v.len];exact A) h.1 h.2 (by rw[v.len];omega) G;exact⟨l2,z,by rw[zf h];exact y⟩
  .exact⟨e,Kp.refl,by rw[zh h]⟩
 obtain⟨s,p5,x⟩:∃s,Kp k l2 s/\(ite (mid<en/\en<b) (o l2 mid en b k=Y s) (s=l2)):=by
  by_cases h:mid<en/\en<b
  .have⟨s,y,z⟩:=E l2 mid en b (by rw[B.len,v.len];exact A) h.1 h.2 (by rw[B.len,v.len];omega) H;exact⟨s,z,by rw[zf h];exact y⟩
  .exact⟨l2,Kp.refl,by rw[zh h]⟩
 refine⟨s,(v.trans B).trans p5,?_⟩;simp only[cv,Q8,e0,F,Ts,zA,zm];by_cases j:st<m/\m<en
 .rw[zf j]at t;by_cases d:a<st/\st<mid
  .rw[zf d]at q;by_cases c:mid<en/\en<b
   .rw[zf c]at x;simp only[zC j,zC d,zC c,t,q,x,dz,bK,zi]
   .rw[zh c]at x;subst x;simp only[zC j,zC d,aC c,t,q,dz,bK,zi,zA,zm]
  .rw[zh d]at q;subst q;by_cases c:mid<en/\en<b
   .rw[zf c]at x;simp only[zC j,aC d,zC c,t,x,dz,bK,zi,zA,zm]
   .rw[zh c]at x;subst x;simp only[zC j,aC d,aC c,t,dz,bK,zi,zA,zm]
 .rw[zh j]at t;subst t;by_cases d:a<st/\st<mid
  .rw[zf d]at q;by_cases c:mid<en/\en<b
   .rw[zf c]at x;simp only[aC j,zC d,zC c,q,x,dz,bK,zi,zA,zm]
   .rw[zh c]at x;subst x;simp only[aC j,zC d,aC c,q,dz,bK,zi,zA,zm]
  .rw[zh d]at q;subst q;by_cases c:mid<en/\en<b
   .rw[zf c]at x;simp only[aC j,aC d,zC c,x,dz,bK,zi,zA,zm]
   .rw[zh c]at x;subst x;simp only[aC j,aC d,aC c,zA,zm]
end
theorem sF{o:SM}{a m b:Int}(h:bT (cv o) 100000000 (qP o l a m b k)=Y (.tup [],[.vec ze.sl x])):smS o l a m b k=Y x:=by unfold smS;rw[h];rfl
theorem zb7(k:Int):∀(x:Nat)(l:List zr)(a m b:Nat),N l<=1000->a<m->m<b->b<=N l->b-a<=2^x->∃e,vp x l a m b k=Y e/\Kp k l e
 |0,_,a,m,b,_,h1,h2,_,G=>by simp at G;omega
 | x+1,l,a,m,b,t,h1,h2,F,G=>by
  have hO:=zb7 k x;have e0:Γ Δ ((m:Int)-(a:Int))=((m-a:Nat):Int):=by rw[wI _ S S];omega
  have D:Γ Δ ((b:Int)-(m:Int))=((b-m:Nat):Int):=by rw[wI _ S S];omega
  by_cases c1:m-a=1
  .have⟨A,H,P,q,v⟩:=zwD (vp x) k l a m b t h1 F (b-m) m b (zR _) (zR _) S (zR _) (.inl rfl);have⟨e,y,z,r3⟩:=zwE (vp x) l A t S (A-a) a l (zR _) (.refl l);refine⟨e,sF ?_,?_⟩
   .have d:(((m-a:Nat):Int)==1)=Z:=by rw[c1];rfl
    unfold bT;simp only[qP,Q8,e0,d,zi];exact(v.ends r3) 100000000 S
   .rcases q with rfl|q
    .rw[z S];exact Kp.refl
    .exact Kp.perm y q
  have d:(((m-a:Nat):Int)==1)=M:=by simp;omega
  by_cases c2:b-m=1
  .have⟨A,H,P,q,v⟩:=zoX (vp x) k l a m t S (m-a) a m (zR _) (zR _) S (zR _) (.inl rfl);have⟨e,y,z,r3⟩:=zoY (vp x) l A t (m-A) m l (zR _) S (.refl l);refine⟨e,sF ?_,?_⟩
   .have j:(((b-m:Nat):Int)==1)=Z:=by rw[c2];rfl
    unfold bT;simp only[qP,Q8,e0,D,d,j,zi,zA,zm];exact(v.ends r3) 100000000 S
   .rcases q with rfl|q
    .rw[z (zR _)];exact Kp.refl
    .exact Kp.perm y q
  have j:(((b-m:Nat):Int)==1)=M:=by simp;omega
  have E:=nD a b S;have s:a<=(a+b)/2/\(a+b)/2<=b/\2*((a+b)/2)<=a+b/\a+b<=2*((a+b)/2)+1:=by omega
  generalize(a+b)/2=mid at E s;have⟨g1,g2,g3,g4⟩:=s;have B:mid-a<=2^x/\b-mid<=2^x:=by rw[pD]at G;omega
  have e3:Γ Δ ((mid:Int)+(m:Int))=((mid+m:Nat):Int):=by rw[wI _ S S];omega
  have e4:Γ Δ (((mid+m:Nat):Int)-1)=((mid+m-1:Nat):Int):=by rw[wI _ S S];omega
  by_cases c3:mid<m
  ·
   have e5:Γ Δ (((mid+m:Nat):Int)-(b:Int))=((mid+m-b:Nat):Int):=by rw[wI _ S S];omega
   have u:K ((m:Int)>(mid:Int))=Z:=AN c3;have⟨st,H,P,q,v⟩:=zb6 (vp x) k l a m b mid (mid+m) (mid+m-1) (mid+m-b) mid t S S (λc u1 u2=>by omega) (mid-(mid+m-b)) (mid+m-b) mid (zR _) (zR _) S (zR _) (.inl rfl);have⟨e,y,z⟩:=zb5 (vp x) k hO l a m b mid (mid+m) st (mid+m-st) ((mid+m-1:Nat):Int) t F S S S S B.1 B.2 g2 (λu1 u2=>by
    rcases q with rfl|q
    .omega
    .exact q)
   refine⟨e,sF ?_,y⟩;unfold bT;simp only[qP,Q8,e0,D,E,e3,e4,e5,d,j,u,zi,zA,zm];exact(v.ends (zV.of z)) 100000000 S
  .have u:K ((m:Int)>(mid:Int))=M:=by simp;omega
   have⟨st,H,P,q,v⟩:=zb6 (vp x) k l a m b mid (mid+m) (mid+m-1) a m t S S (λc u1 u2=>by omega) (m-a) a m (zR _) (zR _) S (zR _) (.inl rfl);have⟨e,y,z⟩:=zb5 (vp x) k hO l a m b mid (mid+m) st (mid+m-st) ((mid+m-1:Nat):Int) t F S S S S B.1 B.2 g2 (λu1 u2=>by
    rcases q with rfl|q
    .omega
    .exact q)
   refine⟨e,sF ?_,y⟩;unfold bT;simp only[qP,Q8,e0,D,E,e3,e4,d,j,u,zi,zA,zm];exact(v.ends (zV.of z)) 100000000 S
theorem zzQ(k:Int)(c:List zr)(x:Nat)(hn:N c<=1000)(hb:1<=x)(F:x<=1000):∀(s a:Nat)(l:List zr),N c-a<=s->a<=N c->Kp k c l->
  ∃q,Kp k c q/\zG eQ (s+1) (.h9 (N c:Int) k (x:Int) (a:Int) ((a+2*x:Nat):Int) l) (.h7 (N c:Int) k ((2*x:Nat):Int) q):=by
 intro s
 induction s with
 | zero=>
  intro a l G E d;refine⟨l,d,zG.of ?_⟩;have e0:Γ Δ ((a:Int)+(x:Int))=((a+x:Nat):Int):=by rw[wI _ S S];omega
  have j:Γ Δ ((x:Int)*2)=((2*x:Nat):Int):=by rw[wI _ S S];omega
  have e:K (((a+2*x:Nat):Int)<=(N c:Int))=M:=by simp;omega
  simp only[eQ,Q8,e0,j,e,eK (show¬a+x<N c by omega),zA,zm]
 | succ s A=>
  intro a l G E d;have z:=d.len;have e0:Γ Δ ((a:Int)+(x:Int))=((a+x:Nat):Int):=by rw[wI _ S S];omega
  have j:Γ Δ ((x:Int)*2)=((2*x:Nat):Int):=by rw[wI _ S S];omega
  have D:Γ Δ (((a+2*x:Nat):Int)+Γ Δ (2*(x:Int)))=((a+2*x+2*x:Nat):Int):=by rw[wI (2*(x:Int)) S S,wI _ S S];omega
  by_cases B:a+2*x<=N c
  .have⟨u,v,y⟩:=zb7 k 16 l a (a+x) (a+2*x) S S S S sg;have⟨q,H,P⟩:=A (a+2*x) u S B (d.trans y);refine⟨q,H,((zG.of ?_).trans P).mono S⟩;have e:K (((a+2*x:Nat):Int)<=(N c:Int))=Z:=by simp;omega
   simp only[eQ,Q8,e0,e,D,v,dz,bK,zi]
  .have e:K (((a+2*x:Nat):Int)<=(N c:Int))=M:=by simp;omega
   by_cases t:a+x<N c
   .have⟨u,v,y⟩:=zb7 k 16 l a (a+x) (N c) S S t S sg;refine⟨u,d.trans y,(zG.of ?_).mono S⟩;simp only[eQ,Q8,e0,j,e,zM t,v,dz,bK,zi,zA,zm]
   .refine⟨l,d,(zG.of ?_).mono S⟩;simp only[eQ,Q8,e0,j,e,eK t,zA,zm]
theorem zzP(k:Int)(d:List zr)(v:N d<=1000):∀(s x:Nat)(l:List zr),N d-x<=s->1<=x->Kp k d l->
  ∃j,Kp k d j/\zV eQ (s*1002+1) (.h7 (N d:Int) k (x:Int) l) (.tup [],[.vec ze.sl j]):=by
 intro s
 induction s with
 | zero=>
  intro x l y q e;refine⟨l,e,(zV.of ?_).mono S⟩;simp only[eQ,Q8,eK (show¬x<N d by omega),zA,zm]
 | succ s t=>
  intro x l y q e;by_cases c:x<N d
  case neg=>
   refine⟨l,e,(zV.of ?_).mono S⟩;simp only[eQ,Q8,eK c,zA,zm]
  have⟨z,A,B⟩:=zzQ k d x v q S (N d) 0 l S S e;have⟨j,D,E⟩:=t (2*x) z S S A;refine⟨j,D,(((zG.of ?_).trans B).ends E).mono S⟩;have u:Γ Δ (2*(x:Int))=((0+2*x:Nat):Int):=by rw[wI _ S S];omega
  simp only[eQ,Q8,zM c,u,zi];rfl
theorem zzO(k:Int)(x:List zr)(F:N x<=1000):∀(s a:Nat)(l:List zr),N x-a<=s->a<=N x->Kp k x l->
  ∃v,Kp k x v/\zG eQ (s+1) (.h2 (N x:Int) k 20 (a:Int) ((a+20:Nat):Int) l) (.h7 (N x:Int) k 20 v):=by
 intro s
 induction s with
 | zero=>
  intro a l B A d;have j:=d.len;have⟨q,t,u⟩:=Fv l a (N x) k S S S;refine⟨q,d.trans u,zG.of ?_⟩;have e:K (((a+20:Nat):Int)<=(N x:Int))=M:=by simp;omega
  simp only[eQ,Q8,e,t,dz,bK,zi,zA,zm]
 | succ s y=>
  intro a l B A d;have j:=d.len;by_cases c:a+20<=N x
  .have⟨q,t,u⟩:=Fv l a (a+20) k S S S;have⟨v,D,E⟩:=y (a+20) q S c (d.trans u);refine⟨v,D,((zG.of ?_).trans E).mono S⟩;have e:K (((a+20:Nat):Int)<=(N x:Int))=Z:=by simp;omega
   have z:Γ Δ (((a+20:Nat):Int)+20)=((a+20+20:Nat):Int):=by rw[wI _ S S];omega
   simp only[eQ,Q8,e,z,t,dz,bK,zi]
  .have⟨q,t,u⟩:=Fv l a (N x) k S S S;refine⟨q,d.trans u,(zG.of ?_).mono S⟩;have e:K (((a+20:Nat):Int)<=(N x:Int))=M:=by simp;omega
   simp only[eQ,Q8,e,t,dz,bK,zi,zA,zm]
theorem zgq(k:Int)(l:List zr)(c:N l<=1000):∃x,Ha l (N l:Int) k=Y x/\Kp k l x:=by
 have⟨e,q,j⟩:=zzO k l c (N l) 0 l S S Kp.refl;have⟨x,s,t⟩:=zzP k l c (N l) 20 e S S q;refine⟨x,?_,s⟩;have:zce l (N l:Int) k=Y (.tup [],[.vec ze.sl x]):=by
  have d:=fM 1002 c;exact(j.ends t) 100000000 (by
   refine aV (Nat.add_le_add (Nat.succ_le_succ d) (Nat.succ_le_succ c)) (by decide))
 unfold Ha;rw[this];rfl
theorem Qj(k:Int)(l:List zr)(c:N l<=1000):∃x,sG l k=Y x/\Kp k l x:=by
 have⟨x,q,d⟩:=zgq k l c;refine⟨x,?_,d⟩;have:G9 l k=Y (.tup [],[.vec ze.sl x]):=by
  unfold G9 bT;simp only[Oy,Q8,q,dz,bK,zi]
 unfold sG;rw[this];rfl
theorem zbO{d:ag}(B:NL d=Z)(E:N d.2<=1000):∃j,Bi d=Y ((d.1,j),())/\j.Perm d.2/\(dI d.1=Z->Kp d.1.q.1 d.2 j):=by
 have y:∀j:List zr,aX [AO.vec zp d.1.2.1,AO.vec zk d.1.r.1,AO.vec zI d.1.t.1,AO.vec ze.sl j] [zl] (agg [X d.1.1,AV.vec 0,J d.1.q.1,AV.vec 1,AV.vec 2,X (zg.op d.1.u),J (zg.v d.1.u).1,J (zg.v d.1.u).2.1,X (zg.v d.1.u).q,X (zg.s d.1.u),O Sh.expr (zg.l d.1.u),AV.vec 3])=Y (((d.1,j):ag),()):=by
  intro j;have⟨⟨a,b,c,x,e,f⟩,r⟩:=d;cases f;rfl
 cases D:dI d.1 with
 | true=>
  have⟨j,A,z⟩:=Qj d.1.q.1 d.2 E;refine⟨j,zQ (r:=(_,_)) ?_ (y j),z.1,λ_=>z⟩;simp only[zfs,Q8,zn,aN,B,D,A,dz,bK,bW,zA,zi,zm]
 | false=>
  have⟨j,A,z⟩:=Qj (-1) d.2 E;refine⟨j,zQ (r:=(_,_)) ?_ (y j),z.1,λh=>(by cases h)⟩;simp only[zfs,Q8,zn,aN,B,D,A,dz,bK,dd,zi]
section
variable {db:List (L zl)} {p:L zZ} {us:List (L R)}
theorem zfB(h:aw db p)(m:jG db p)(us:zr):NL (p.r.1,(bZ us).flatMap (cA db p))=Z:=by have d:=(ka h (bZ us) (iR us)).1;unfold NL;simp only[aO,bc,ep];refine⟨⟨⟨⟨⟨aV m.wf.ncols S,aV m.wf.nuq S⟩,aV m.wf.nrf S⟩,h.go.few.cp⟩,S⟩,λr c=>?_⟩;have⟨u,_,x⟩:=BI.1 c;have:=(cq (Fm h m r x).1).1;have:=m.wf.ncols;omega
theorem zmn(h:aw db p){x:ag}{n:Int}(d:iL p (zD db p) (cD p (zD db p))=Y (x,n,0,())):Iv p (zD db p)=Y (x,n,0,()):=by
 have c:=h.uall;have e:SY p (zD db p)=Z:=by unfold SY;rw[c];rfl
 have j:zct p (zD db p)=(cD p (zD db p),0):=by unfold zct;rw[c];rfl
 have l:pG p (zD db p) (cD p (zD db p))=Z:=by unfold pG;rw[d];rfl
 have s:wO p (zD db p) (cD p (zD db p))=(x,n,0):=by unfold wO;rw[d];rfl
 have⟨t,rows⟩:=x;refine(zQ (i:=zfd p (zD db p)) (t:=t0) (n:=100000000) (outs:=[zl,zk,zk]) (by
  simp only[zfd,Q8,zn,aN,e,j,l,s,gj,zA,zi,zm];rfl) (y:=(((t.1,t.2.1,t.q.1,t.r.1,t.t.1,zw t.u),rows),n,0,())) rfl).trans ?_
 rw[zn]
end
section
variable {α:Type} {le:α->α->Prop} {f g h:Nat->α} {a b m mid st en:Nat}
def Up(le:α->α->Prop)(f:Nat->α)(a b:Nat):Prop:=∀i j,a<=i->i<j->j<b->le (f i) (f j)
def BC(f g:Nat->α)(a b:Nat):Prop:=(∀i,i<a\/b<=i->g i=f i)/\∀i,a<=i->i<b->∃j,a<=j/\j<b/\g i=f j
theorem BC.refl:BC f f a b:=⟨λ_ _=>rfl,λi x c=>⟨i,x,c,rfl⟩⟩
theorem BC.trans(u:BC f g a b)(v:BC g h a b):BC f h a b:=⟨λi x=>(v.1 i x).trans (u.1 i x),λi c d=>by
 have⟨j,q,e,s⟩:=v.2 i c d;have⟨l,t,y,z⟩:=u.2 j q e;exact⟨l,t,y,s.trans z⟩⟩
variable {c j:Nat}
theorem BC.wide(u:BC f g a b)(s:c<=a)(t:b<=j):BC f g c j:=⟨λi v=>u.1 i S,λi q e=>by
 by_cases d:a<=i/\i<b
 .have⟨x,y,z,l⟩:=u.2 i d.1 d.2;exact⟨x,S,S,l⟩
 .exact⟨i,q,e,u.1 i S⟩⟩
theorem Up.same(u:Up le f a b)(v:∀i,a<=i->i<b->g i=f i):Up le g a b:=λi j x d c=>by
 rw[v i x S,v j S c];exact u i j x d c
theorem Up.part(u:Up le f a b)(d:a<=c)(e:j<=b):Up le f c j:=λi x l q s=>u i x S q S
theorem Up.one(x:b<=a+1):Up le f a b:=λi j q c d=>by omega
theorem WU(t:∀x y z,le x y->le y z->le x z)(v:Up le f a m)(A:Up le f m b)(e:st+en=mid+m)(ha:a<=st)(hs:st<=m)(hm:m<=en)(hb:en<=b)
  (c1:st=a\/en=b\/le (f (st-1)) (f en)) (c2:st=m\/en=m\/le (f (en-1)) (f st))
  (g1:∀i,i<st->g i=f i) (E:∀i,st<=i->i<mid->g i=f (i+(m-st))) (B:∀i,mid<=i->i<en->g i=f (i-(en-m))) (F:∀i,en<=i->g i=f i):
  Up le g a st/\Up le g st mid/\Up le g mid en/\Up le g en b/\∀i j,a<=i->i<mid->mid<=j->j<b->le (g i) (g j):=by
 refine⟨v.part (zR _) hs |>.same λi _ q=>g1 i q,λi j s q2 u=>?_,λi j s q2 u=>?_,A.part hm (zR _) |>.same λi q _=>F i q,λi j s q2 u q4=>?_⟩
 .rw[E i s S,E j S u];exact A _ _ S S S
 .rw[B i s S,B j S u];exact v _ _ S S S
 .have P:∀x,a<=x->x<st->∀y,en<=y->y<b->le (f x) (f y):=λx x1 x2 y y1 y2=>by
   rcases c1 with c|c|c
   .omega
   .omega
   .have l:x=st-1\/le (f x) (f (st-1)):=by
     by_cases G:x=st-1
     .exact .inl G
     .exact .inr (v _ _ x1 S S)
    have d:y=en\/le (f en) (f y):=by
     by_cases H:y=en
     .exact .inl H
     .exact .inr (A _ _ S S y2)
    rcases l with rfl|l
    .rcases d with rfl|d
     .exact c
     .exact t _ _ _ c d
    .rcases d with rfl|d
     .exact t _ _ _ l c
     .exact t _ _ _ l (t _ _ _ c d)
  have h0:∀x,m<=x->x<en->∀y,st<=y->y<m->le (f x) (f y):=λx x1 x2 y y1 y2=>by
   rcases c2 with c|c|c
   .omega
   .omega
   .have l:x=en-1\/le (f x) (f (en-1)):=by
     by_cases G:x=en-1
     .exact .inl G
     .exact .inr (A _ _ x1 S S)
    have d:y=st\/le (f st) (f y):=by
     by_cases H:y=st
     .exact .inl H
     .exact .inr (v _ _ ha S y2)
    rcases l with rfl|l
    .rcases d with rfl|d
     .exact c
     .exact t _ _ _ c d
    .rcases d with rfl|d
     .exact t _ _ _ l c
     .exact t _ _ _ l (t _ _ _ c d)
  by_cases ci:i<st
  .rw[g1 i ci];by_cases D:j<en
   .rw[B j u D];exact v _ _ s S S
   .rw[F j S];exact P i s ci j S q4
  .rw[E i S q2];by_cases D:j<en
   .rw[B j u D];exact h0 _ S S _ S S
   .rw[F j S];exact A _ _ S S q4
theorem RZ{c x:Nat->α}(A:∀i j,a<=i->i<mid->mid<=j->j<b->le (g i) (g j))(y:a<=mid)(z:mid<=b)(d:BC g c a mid)(v1:Up le c a mid)(u:BC c x mid b)(v2:Up le x mid b):Up le x a b/\BC g x a b:=by
 refine⟨λi j q l s=>?_,(d.wide (zR _) z).trans (u.wide y (zR _))⟩;by_cases v:j<mid
 .rw[u.1 i S,u.1 j S];exact v1 i j q l v
 .by_cases t:i<mid
  .have⟨B,D,E,F⟩:=d.2 i q t;have⟨e,G,H,P⟩:=u.2 j S s;rw[u.1 i S,F,P,d.1 e S];exact A B e D E G H
  .exact v2 i j S l s
theorem sE{P:Nat->Prop}{lo r0 i:Nat}(d:∀c e,lo<=e->e<=c->c<r0->P c->P e)(_:∀x,lo<=x->x<i->P x)(_:∀x,j<=x->x<r0->¬P x)(z:lo<=i)(y:i<=c)(A:c<j)(B:j<=r0):
  (P c->∀x,lo<=x->x<c+1->P x)/\(¬P c->∀x,c<=x->x<r0->¬P x):=
 ⟨λl x q s=>d c x q S S l,λl x q s t=>l (d x c S q s t)⟩
end
section
variable {α:Type} {le:α->α->Prop} {f g:Nat->α} {a b m:Nat}
def M9(f:Nat->α)(i j:Nat):Nat->α:=λt=>if t=i then f j else if t=j then f i else f t
variable {i j:Nat}
theorem zgs(x:a<=i)(c:i<b)(d:a<=j)(e:j<b):BC f (M9 f i j) a b:=by
 refine⟨λt s=>?_,λt q l=>?_⟩
 .unfold M9;rw[zh S,zh S]
 .unfold M9;split
  .exact⟨j,d,e,rfl⟩
  .split
   .exact⟨i,x,c,rfl⟩
   .exact⟨t,q,l,rfl⟩
structure Ins (le:α->α->Prop) (f:Nat->α) (a i j:Nat):Prop where
 oth:∀p q,a<=p->p<q->q<=i->p≠j->q≠j->le (f p) (f q)
 one:∀q,j<q->q<=i->le (f j) (f q)
theorem Ins.start(h:Up le f a i):Ins le f a i i:=⟨λp q x c d e j=>h p q x c S,λq x c=>by omega⟩
theorem Ins.down(h:Ins le f a i (j+1))(B:a<=j)(D:j+1<=i)(A:le (f (j+1)) (f j)):Ins le (M9 f j (j+1)) a i j:=by
 have y:M9 f j (j+1) j=f (j+1):=by unfold M9;rw[zf rfl]
 have s:M9 f j (j+1) (j+1)=f j:=by unfold M9;rw[zh S,zf rfl]
 have e:∀t,t≠j->t≠j+1->M9 f j (j+1) t=f t:=λt c d=>by unfold M9;rw[zh c,zh d]
 refine⟨λp q c d u z v=>?_,λq c d=>?_⟩
 .by_cases l:p=j+1
  .subst l;rw[s,e q v S];exact h.oth j q B S u S S
  .rw[e p z l];by_cases x:q=j+1
   .subst x;rw[s];exact h.oth p j c S S l S
   .rw[e q v x];exact h.oth p q c d u l x
 .rw[y];by_cases x:q=j+1
  .subst x;rw[s];exact A
  .rw[e q S x];exact h.one q S d
theorem Ins.done(A:∀x y z,le x y->le y z->le x z)(h:Ins le f a i j)(E:j<=i)(v:j=a\/(a<j/\le (f (j-1)) (f j))):Up le f a (i+1):=λp q s t D=>by
 by_cases d:p=j
 .subst d;exact h.one q t S
 .by_cases u:q=j
  .subst u;rcases v with c|⟨B,l⟩
   .omega
   .by_cases e:p=q-1
    .subst e;exact l
    .exact A _ _ _ (h.oth p (q-1) s S S d S) l
  .exact h.oth p q s t S d u
def Vn(f:Nat->α)(a b n:Nat):Nat->α:=λt=>if a<=t/\t<a+n then f (t+(b-a))else if b<=t/\t<b+n then f (t-(b-a))else f t
theorem zcF:Vn f a b 0=f:=by funext t;unfold Vn;rw[zh S,zh S]
theorem zcE{n:Nat}(h:a+j<=b)(l:n<j):M9 (Vn f a b n) (b+n) (a+n)=Vn f a b (n+1):=by
 funext t;unfold M9 Vn;by_cases x:t=b+n
 .subst x;rw[zf rfl,zh S,zh S,zh S,zf S];congr 1;omega
 .rw[zh x];by_cases c:t=a+n
  .subst c;rw[zf rfl,zh S,zh S,zf S];congr 1;omega
  .rw[zh c];by_cases d:a<=t/\t<a+n
   .rw[zf d,zf S]
   .rw[zh d];by_cases e:b<=t/\t<b+n
    .rw[zf e,zh S,zf S]
    .rw[zh e,zh S,zh S]
def uG(f:Nat->α)(m i j:Nat):Nat->α:=λt=>if m-i<=t/\t<m-i+j then f (t+i)else if m-i+j<=t/\t<m+j then f (t-j)else f t
theorem zbZ(d:i<=m):Vn f (m-i) m i=uG f m i i:=by
 funext t;unfold Vn uG;by_cases x:m-i<=t/\t<m-i+i
 .rw[zf x,zf x];congr 1;omega
 .rw[zh x,zh x];by_cases c:m<=t/\t<m+i
  .rw[zf c,zf S];congr 1;omega
  .rw[zh c,zh S]
theorem zbY(x:i<=m)(h:j<i)(c:1<=j):uG (Vn f (m-i) m j) m (i-j) j=uG f m i j:=by
 funext t;unfold uG Vn;repeat' split
 all_goals first|rfl|(exfalso;omega)|(congr 1;omega)
theorem zbX(c:i<=m)(h:i<j)(x:1<=i):uG (Vn f (m-i) (m+j-i) i) m i (j-i)=uG f m i j:=by
 funext t;unfold uG Vn;repeat' split
 all_goals first|rfl|(exfalso;omega)|(congr 1;omega)
def XI(f:Nat->α)(a i:Nat):Nat->α:=λt=>if a<=t/\t+1<i then f (t+1)else if t+1=i/\a<=t then f a else f t
def XE(f:Nat->α)(i m:Nat):Nat->α:=λt=>if t=i/\i<=m then f m else if i<t/\t<=m then f (t-1)else f t
theorem zgK:XI f a (a+1)=f:=by
 funext t;unfold XI;repeat' split
 all_goals first|rfl|(exfalso;omega)|(congr 1;omega)
theorem zgJ{c:Nat}(h:a<=c):M9 (XI f a (c+1)) (c+1) c=XI f a (c+2):=by
 funext t;unfold M9 XI;repeat' split
 all_goals first|rfl|(exfalso;omega)|(congr 1;omega)
theorem zeR:XE f m m=f:=by
 funext t;unfold XE;repeat' split
 all_goals first|rfl|(exfalso;omega)|(congr 1;omega)
theorem zeQ{c:Nat}(h:c+1<=m):M9 (XE f (c+1) m) c (c+1)=XE f c m:=by
 funext t;unfold M9 XE;repeat' split
 all_goals first|rfl|(exfalso;omega)|(congr 1;omega)
theorem zpb(c:a<i)(d:i<=b):BC f (XI f a i) a b:=by
 refine⟨λt e=>?_,λt q x=>?_⟩
 .unfold XI;rw[zh S,zh S]
 .unfold XI;split
  .exact⟨t+1,S,S,rfl⟩
  .split
   .exact⟨a,S,S,rfl⟩
   .exact⟨t,q,x,rfl⟩
theorem zmO(c:a<=i)(d:i<=m)(e:m<b):BC f (XE f i m) a b:=by
 refine⟨λt j=>?_,λt q x=>?_⟩
 .unfold XE;rw[zh S,zh S]
 .unfold XE;split
  .exact⟨m,S,S,rfl⟩
  .split
   .exact⟨t-1,S,S,rfl⟩
   .exact⟨t,q,x,rfl⟩
theorem zwT(h:Up le f (a+1) b)(d:a<i)(e:i<=b)(l:∀c,a+1<=c->c<i->le (f c) (f a))(x:∀c,i<=c->c<b->le (f a) (f c)):Up le (XI f a i) a b:=λp q j s t=>by
 unfold XI;repeat' split
 all_goals first|(exfalso;omega)|exact h _ _ S S S|exact l _ S S|exact x _ S S
theorem zsW(h:Up le f a m)(d:a<=i)(e:i<=m)(l:∀c,a<=c->c<i->le (f c) (f m))(x:∀c,i<=c->c<m->le (f m) (f c)):Up le (XE f i m) a (m+1):=λp q j s t=>by
 unfold XE;repeat' split
 all_goals first|(exfalso;omega)|exact h _ _ S S S|exact l _ S S|exact x _ S S
end
theorem eJ(v:zo):bg (ah v)=Z:=by
 unfold ah;split
 .rfl
 next h=>simpa using h
theorem JD(v:zo):ah (ah v)=ah v:=by show(ite ((!bg (ah v))=Z) (0,0,[]) (ah v))=ah v;rw[eJ];rfl
theorem O9(a b:zo):an (ah a) (ah b)=an a b:=by unfold an;rw[JD,JD]
variable {a b:zo}
theorem FG:qE (ah a) (ah b)↔qE a b:=by unfold qE;rw[O9]
def leO(a b:zo):Prop:=FD (ah a) (ah b)=Z
variable {c:zo}
theorem AY(h:leO a b)(g:leO b c):leO a c:=A0 (eJ _) (eJ _) (eJ _) h g
theorem tz:leO a b↔¬qE b a:=by
 constructor
 .intro h g;rcases(ku (eJ _) (eJ _)).1 h with q|q
  .exact eB (em (FG.1 q) g)
  .have x:=FG.2 g;rw[q]at x;exact eB x
 .intro h;refine kF λc=>?_
  rcases(ku (eJ _) (eJ _)).1 (AZ (eJ _) (eJ _) c)with q|q
  .exact h (FG.1 q)
  .exact c ((ku (eJ _) (eJ _)).2 (.inr q.symm))
theorem zob(h:qE a b):leO a b:=tz.2 λg=>eB (em h g)
theorem zav(h:leO a b)(g:qE b c):qE a c:=kF λx=>tz.1 (AY (tz.2 x) h) g
theorem zvq(h:qE a b)(g:leO b c):qE a c:=kF λx=>tz.1 (AY g (tz.2 x)) h
abbrev dm(l:List zr):Nat->zr:=λt=>l.getD t (zj ze.sl)
def rc(k:Int)(x y:zr):Prop:=leO (eY k x) (eY k y)
theorem oW(k:Int)(x y z:zr)(h:rc k x y)(g:rc k y z):rc k x z:=AY h g
theorem p6{x y:zr}:rc k x y↔¬ma k y x:=tz
theorem FC{x y:zr}(h:ma k x y):rc k x y:=zob h
theorem C1(d:i<N l)(s:j<N l)(q:i≠j):dm ((l.set j (l.getD i (zj ze.sl))).set i (l.getD j (zj ze.sl)))=M9 (dm l) i j:=by
 funext t;unfold M9;show((l.set j _).set i _).getD t _=_;rw[bD,nr];by_cases x:t=i
 .subst x;rw[zf rfl,zf rfl,zf (by rw[nt];exact d)];rfl
 .rw[zh (λe=>x e.symm),zh x,nr];by_cases c:t=j
  .subst c;rw[zf rfl,zf rfl,zf s];rfl
  .rw[zh (λe=>c e.symm),zh c,<-bD]
theorem WH(a b i:Nat)(k:Int)(hi:i<1000):∀(m j:Nat)(l:List zr),N l<=1000->j=a+m->j<N l->j<=i->Ins (rc k) (dm l) a i j->
  ∃c,c.Perm l/\BC (dm l) (dm c) a (i+1)/\Up (rc k) (dm c) a (i+1)/\zG kS (m+1) (.h4 (a:Int) (b:Int) k (i:Int) (j:Int) l) (.h1 (a:Int) (b:Int) k ((i+1:Nat):Int) c):=by
 intro m
 induction m with
 | zero=>
  intro j l H hj e x q;obtain rfl:j=a:=by omega
  refine⟨l,.refl l,BC.refl,q.done (oW k) x (.inl rfl),zG.of ?_⟩;simp only[kS,Q8,TR,aJ,zA,zm,zi,zt i um]
 | succ m P=>
  intro j l H hj e x q;obtain⟨j,rfl⟩:∃j',j=j'+1:=⟨j-1,S⟩;have z:K (((j+1:Nat):Int)>(a:Int))=Z:=AN S;have A:zK ((j+1:Nat):Int) (N l)=Z:=zu e;have B:K (j+1<N l)=Z:=by simpa using e
  have D:Γ Δ (((j+1:Nat):Int)-1)=(j:Int):=gS j um;have t:zK (j:Int) (N l)=Z:=zu S;have u:K (j<N l)=Z:=by simp;omega
  have E:zK (j:Int) (l.set (j+1) (l.getD j (zj ze.sl))).length=Z:=by rw[nt];exact t
  have F:K (j<(l.set (j+1) (l.getD j (zj ze.sl))).length)=Z:=by rw[nt];exact u
  by_cases s:ma k (l.getD (j+1) (zj ze.sl)) (l.getD j (zj ze.sl))
  .have d:=C1 (l:=l) (i:=j) (j:=j+1) S e S;have y:Ins (rc k) (dm ((l.set (j+1) (l.getD j (zj ze.sl))).set j (l.getD (j+1) (zj ze.sl)))) a i j:=by
    rw[d];exact q.down S x (FC s)
   have⟨c,p,G,h2,h3⟩:=P j _ (by simpa using H) S sg S y;refine⟨c,p.trans (jc S e _),?_,h2,((zG.of ?_).trans h3).mono S⟩
   .rw[d]at G;exact(zgs S S S S).trans G
   have v:K (LT.lt (α:=Int) (an (eY k (l.getD (j+1) (zj ze.sl))) (eY k (l.getD j (zj ze.sl)))) 0)=Z:=zC s;simp only[kS,Q8,D,aI];rw[eZ,iq];simp only[z,A,B,t,u,v,E,F,aG,nu,zi]
  .refine⟨l,.refl l,BC.refl,q.done (oW k) x (.inr ⟨S,p6.2 s⟩),(zG.of ?_).mono S⟩;have v:K (LT.lt (α:=Int) (an (eY k (l.getD (j+1) (zj ze.sl))) (eY k (l.getD j (zj ze.sl)))) 0)=M:=aC s;simp only[kS,Q8,D,aI];rw[eZ,iq];simp only[z,A,B,t,u,v,E,F,aG,nu,zi,zA,zm,zt i um]
theorem WG(a b:Nat)(k:Int):∀(m i:Nat)(l:List zr),N l<=1000->b<=N l->b-i=m->a<=i->Up (rc k) (dm l) a i->
  ∃x,x.Perm l/\BC (dm l) (dm x) a b/\Up (rc k) (dm x) a b/\zV kS (m*1002+1) (.h1 (a:Int) (b:Int) k (i:Int) l) (.tup [],[.vec ze.sl x]):=by
 intro m
 induction m with
 | zero=>
  intro i l d v A y c;refine⟨l,.refl l,BC.refl,c.part (zR _) S,(zV.of ?_).mono S⟩;simp only[kS,Q8,eK (show¬i<b by omega),zA,zm]
 | succ m j=>
  intro i l d v A y c;have⟨B,e,q,E,t⟩:=WH a b i k S (i-a) i l d S S (zR _) (Ins.start c);have z:=e.length_eq;have⟨x,D,s,F,u⟩:=j (i+1) B S S S S E;refine⟨x,D.trans e,(q.wide (zR _) S).trans s,F,((zG.of ?_).trans t |>.ends u).mono S⟩;simp only[kS,Q8,zM (show i<b by omega),zi]
theorem Ld(l:List zr)(a b:Nat)(k:Int)(j:N l<=1000)(q:a<=N l)(e:b<=N l):∃x,rX l a b k=Y x/\x.Perm l/\BC (dm l) (dm x) a b/\Up (rc k) (dm x) a b:=by
 have⟨x,p,f,u,c⟩:=WG a b k (b-(a+1)) (a+1) l j e rfl S (Up.one (zR _));refine⟨x,?_,p,f,u⟩;have:Fu l a b k=Y (.tup [],[.vec ze.sl x]):=by
  unfold Fu bT OA;rw[zt a um];have d:b-(a+1)<=1000:=by omega
  exact c 100000000 (aV (Nat.succ_le_succ (fM 1002 d)) (by decide))
 unfold rX;rw[this];rfl
theorem zgt(f:Nat->zr)(a b n x:Nat)(G:x<=1000)(d:a+n<=b)(H:b+n<=x):∀(m i:Nat)(l:List zr),N l=x->n-i=m->i<=n->dm l=Vn f a b i->
  ∃c,c.Perm l/\dm c=Vn f a b n/\zV yL (m+1) (.h1 (a:Int) (b:Int) (n:Int) (i:Int) l) (.tup [],[.vec ze.sl c]):=by
 intro m
 induction m with
 | zero=>
  intro i l s F E e;obtain rfl:i=n:=by omega
  refine⟨l,.refl l,e,zV.of ?_⟩;simp only[yL,Q8,zJ,zA,zm]
 | succ m t=>
  intro i l s F E e;have e0:Γ Δ ((b:Int)+(i:Int))=((b+i:Nat):Int):=by rw[wI _ S S];omega
  have u:Γ Δ ((a:Int)+(i:Int))=((a+i:Nat):Int):=by rw[wI _ S S];omega
  have v:zK ((a+i:Nat):Int) (N l)=Z:=zu S;have y:zK ((b+i:Nat):Int) (N l)=Z:=zu S;have z:K (a+i<N l)=Z:=by simp;omega
  have A:K (b+i<N l)=Z:=by simp;omega
  have q:=C1 (l:=l) (i:=b+i) (j:=a+i) S S S;have⟨c,p,B,D⟩:=t (i+1) ((l.set (a+i) (l.getD (b+i) (zj ze.sl))).set (b+i) (l.getD (a+i) (zj ze.sl))) (by simpa using s) S S (by rw[q,e];exact zcE d S);refine⟨c,p.trans (jc (i:=b+i) (j:=a+i) S S _),B,((zG.of ?_).ends D).mono S⟩;simp only[yL,Q8,zM (show i<n by omega),e0,u,v,y,z,A,aI,nt,zi,zt i um]
theorem zcf(l:List zr)(a b n:Nat)(k:Int)(q:N l<=1000)(c:a+n<=b)(j:b+n<=N l):∃x,ML l a b n k=Y x/\x.Perm l/\dm x=Vn (dm l) a b n:=by have⟨x,p,d,e⟩:=zgt (dm l) a b n (N l) q c j n 0 l rfl rfl S zcF.symm;refine⟨x,?_,p,d⟩;have:zo6 l a b n k=Y (.tup [],[.vec ze.sl x]):=e 100000000 S;unfold ML;rw[this];rfl
theorem zga(m:Nat)(k:Int)(x:Nat)(hN:x<=1000):∀(s i j:Nat)(l:List zr),N l=x->i+j<=s->1<=i->1<=j->i<=m->m+j<=x->
  ∃c,c.Perm l/\dm c=uG (dm l) m i j/\zV sK (s+1) (.h2 (m:Int) k (i:Int) (j:Int) l) (.tup [],[.vec ze.sl c]):=by
 intro s
 induction s with
 |zero=>intro i j l _ h A;omega
 | succ s G=>
  intro i j l hl hs A H u h4;have e0:Γ Δ ((m:Int)-(i:Int))=((m-i:Nat):Int):=by rw[wI _ S S];omega
  rcases Nat.lt_trichotomy i j with h|h|h
  .have⟨e,q,d,t⟩:=zcf l (m-i) (m+j-i) i k S S S;have B:=d.length_eq;have⟨c,D,E,F⟩:=G i (j-i) e S S A S u S;refine⟨c,D.trans d,by rw[E,t];exact zbX u h A,((zG.of ?_).ends F).mono S⟩;have v:((i:Int)!=(j:Int))=Z:=by simp;omega
   have y:K ((i:Int)>(j:Int))=M:=by simp;omega
   have P:Γ Δ (Γ Δ ((m:Int)+(j:Int))-(i:Int))=((m+j-i:Nat):Int):=by rw[wI ((m:Int)+(j:Int)) S S,wI _ S S];omega
   have z:Γ Δ ((j:Int)-(i:Int))=((j-i:Nat):Int):=by rw[wI _ S S];omega
   simp only[sK,Q8,e0,v,y,P,z,q,dz,bK,zi,zA,zm]
  .subst h;have⟨e,q,d,t⟩:=zcf l (m-i) m i k S S S;refine⟨e,d,by rw[t];exact zbZ u,(zV.of ?_).mono S⟩;simp only[sK,Q8,e0,gj,q,dz,bK,zi,zA,zm]
  .have⟨e,q,d,t⟩:=zcf l (m-i) m j k S S S;have B:=d.length_eq;have⟨c,D,E,F⟩:=G (i-j) j e S S S H S h4;refine⟨c,D.trans d,by rw[E,t];exact zbY u h H,((zG.of ?_).ends F).mono S⟩;have v:((i:Int)!=(j:Int))=Z:=by simp;omega
   have y:K ((i:Int)>(j:Int))=Z:=by simp;omega
   have z:Γ Δ ((i:Int)-(j:Int))=((i-j:Nat):Int):=by rw[wI _ S S];omega
   simp only[sK,Q8,e0,v,y,z,q,dz,bK,zi]
theorem zwA(l:List zr)(a m b:Nat)(k:Int)(d:N l<=1000)(e:a<m)(s:m<b)(j:b<=N l):∃x,Mu l a m b k=Y x/\x.Perm l/\dm x=uG (dm l) m (m-a) (b-m):=by
 have⟨x,p,q,c⟩:=zga m k (N l) d ((m-a)+(b-m)) (m-a) (b-m) l rfl (zR _) S S S S;refine⟨x,?_,p,q⟩;have:zbW l a m b k=Y (.tup [],[.vec ze.sl x]):=by
  unfold zbW bT OB;rw[show Γ Δ ((m:Int)-(a:Int))=((m-a:Nat):Int) by rw[wI _ S S];omega,show Γ Δ ((b:Int)-(m:Int))=((b-m:Nat):Int) by rw[wI _ S S];omega];exact c 100000000 S
 unfold Mu;rw[this];rfl
section
variable (o:SM) (k:Int)
theorem zoZ(l:List zr)(a m b:Nat)(hn:N l<=1000)(ha:a<m)(hb:b<=N l)(hu:Up (rc k) (dm l) m b):∀(s i j:Nat),j-i<=s->m<=i->i<=j->j<=b->(∀c,m<=c->c<i->ma k (dm l c) (dm l a))->(∀c,j<=c->c<b->¬ma k (dm l c) (dm l a))->
  ∃x,m<=x/\x<=b/\(∀c,m<=c->c<x->ma k (dm l c) (dm l a))/\(∀c,x<=c->c<b->¬ma k (dm l c) (dm l a))/\zG (cv o) (s+1) (.h3 (a:Int) k (i:Int) (j:Int) l) (.h9 (x:Int) (a:Int) l):=by
 have z:∀c t,m<=t->t<=c->c<b->ma k (dm l c) (dm l a)->ma k (dm l t) (dm l a):=λc t D u E d=>by
  by_cases e:t=c
  .subst e;exact d
  .exact zav (hu t c D S E) d
 intro s
 induction s with
 | zero=>
  intro i j D u E d v y;obtain rfl:i=j:=by omega
  refine⟨i,u,d,v,y,zG.of ?_⟩;simp only[cv,Q8,eK (show¬i<i by omega),zA,zm]
 | succ s IH=>
  intro i j D u E d v y;by_cases q:i<j
  case neg=>
   obtain rfl:i=j:=by omega
   refine⟨i,u,d,v,y,(zG.of ?_).mono S⟩;simp only[cv,Q8,eK q,zA,zm]
  have e0:=nD i j S;have F:i<=(i+j)/2/\(i+j)/2<j:=by omega
  generalize(i+j)/2=h at e0 F;have e1:zK ((h:Nat):Int) (N l)=Z:=zu S;have e2:K (h<N l)=Z:=by simp;omega
  have e3:zK ((a:Nat):Int) (N l)=Z:=zu S;have e4:K (a<N l)=Z:=by simp;omega
  have⟨w1,w2⟩:=sE (P:=λc=>ma k (dm l c) (dm l a)) (lo:=m) (r0:=b) z v y u F.1 F.2 d;by_cases A:ma k (l.getD h (zj ze.sl)) (l.getD a (zj ze.sl))
  .have⟨x,G,H,q3,q4,q5⟩:=IH (h+1) j S S S d (w1 A) y;refine⟨x,G,H,q3,q4,((zG.of ?_).trans q5).mono S⟩;have B:K (LT.lt (α:=Int) (an (eY k (l.getD h (zj ze.sl))) (eY k (l.getD a (zj ze.sl)))) 0)=Z:=zC A;simp only[cv,Q8,e0,aI];rw[eZ,iq];simp only[zM q,e1,e2,e3,e4,B,zi,zt h um]
  .have⟨x,G,H,q3,q4,q5⟩:=IH i h S u S S v (w2 A);refine⟨x,G,H,q3,q4,((zG.of ?_).trans q5).mono S⟩;have B:K (LT.lt (α:=Int) (an (eY k (l.getD h (zj ze.sl))) (eY k (l.getD a (zj ze.sl)))) 0)=M:=aC A;simp only[cv,Q8,e0,aI];rw[eZ,iq];simp only[zM q,e1,e2,e3,e4,B,zi,zA,zm]
theorem zo0(f:Nat->zr)(a i x:Nat)(hN:x<=1000)(hi:i<=x)(ha:a<i):∀(s c:Nat)(l:List zr),N l=x->i-c<=s->a<=c->c<i->dm l=XI f a (c+1)->
  ∃d,d.Perm l/\dm d=XI f a i/\zV (cv o) (s+1) (.h9 (i:Int) (c:Int) l) (.tup [],[.vec ze.sl d]):=by
 intro s
 induction s with
 |zero=>intro c l _ B _ P;omega
 | succ s u=>
  intro c l F B e E t;by_cases D:c+1<i
  case neg=>
   obtain rfl:i=c+1:=by omega
   refine⟨l,.refl l,t,(zV.of ?_).mono S⟩;have e0:K ((c:Int)<Γ Δ (((c+1:Nat):Int)-1))=M:=by
    rw[wI _ S S];simp only[ed];omega
   simp only[cv,Q8,e0,zA,zm]
  have e0:K ((c:Int)<Γ Δ ((i:Int)-1))=Z:=by
   rw[wI _ S S];simp only[bc];omega
  have v:zK ((c+1:Nat):Int) (N l)=Z:=zu S;have y:zK ((c:Nat):Int) (N l)=Z:=zu S;have z:K (c+1<N l)=Z:=by simp;omega
  have A:K (c<N l)=Z:=by simp;omega
  have q:=C1 (l:=l) (i:=c+1) (j:=c) S S S;have⟨d,p,G,H⟩:=u (c+1) ((l.set c (l.getD (c+1) (zj ze.sl))).set (c+1) (l.getD c (zj ze.sl))) (by simpa using F) S S D (by rw[q,t];exact zgJ e);refine⟨d,p.trans (jc (i:=c+1) (j:=c) S S _),G,((zG.of ?_).ends H).mono S⟩;simp only[cv,Q8,e0,zt c um,v,y,z,A,aI,nt,zi]
theorem zgn(l:List zr)(a m:Nat)(hn:N l<=1000)(hm:m<N l)(hu:Up (rc k) (dm l) a m):∀(s i j:Nat),j-i<=s->a<=i->i<=j->j<=m->(∀c,a<=c->c<i->¬ma k (dm l m) (dm l c))->(∀c,j<=c->c<m->ma k (dm l m) (dm l c))->
  ∃x,a<=x/\x<=m/\(∀c,a<=c->c<x->¬ma k (dm l m) (dm l c))/\(∀c,x<=c->c<m->ma k (dm l m) (dm l c))/\zG (cv o) (s+1) (.h15 (m:Int) k (i:Int) (j:Int) l) (.h21 (x:Int) (m:Int) l):=by
 have z:∀c u,a<=u->u<=c->c<m->¬ma k (dm l m) (dm l c)->¬ma k (dm l m) (dm l u):=λc u D v E d q=>by
  by_cases e:u=c
  .subst e;exact d q
  .exact d (zvq q (hu u c D S E))
 intro s
 induction s with
 | zero=>
  intro i j D v E d q y;obtain rfl:i=j:=by omega
  refine⟨i,v,d,q,y,zG.of ?_⟩;simp only[cv,Q8,eK (show¬i<i by omega),zA,zm]
 | succ s IH=>
  intro i j D v E d q y;by_cases t:i<j
  case neg=>
   obtain rfl:i=j:=by omega
   refine⟨i,v,d,q,y,(zG.of ?_).mono S⟩;simp only[cv,Q8,eK t,zA,zm]
  have e0:=nD i j S;have F:i<=(i+j)/2/\(i+j)/2<j:=by omega
  generalize(i+j)/2=h at e0 F;have e1:zK ((h:Nat):Int) (N l)=Z:=zu S;have e2:K (h<N l)=Z:=by simp;omega
  have e3:zK ((m:Nat):Int) (N l)=Z:=zu S;have e4:K (m<N l)=Z:=by simp;omega
  have⟨w1,w2⟩:=sE (P:=λc=>¬ma k (dm l m) (dm l c)) (lo:=a) (r0:=m) z q (λc x1 x2 x3=>x3 (y c x1 x2)) v F.1 F.2 d;by_cases A:ma k (l.getD m (zj ze.sl)) (l.getD h (zj ze.sl))
  .have⟨x,G,H,q3,q4,q5⟩:=IH i h S v S S q (λc x1 x2=>kF λx3=>w2 (λx4=>x4 A) c x1 x2 x3);refine⟨x,G,H,q3,q4,((zG.of ?_).trans q5).mono S⟩;have B:K (LT.lt (α:=Int) (an (eY k (l.getD m (zj ze.sl))) (eY k (l.getD h (zj ze.sl)))) 0)=Z:=zC A;simp only[cv,Q8,e0,aI];rw[eZ,iq];simp only[zM t,e1,e2,e3,e4,B,zi,bW,zA,zm]
  .have⟨x,G,H,q3,q4,q5⟩:=IH (h+1) j S S S d (w1 A) y;refine⟨x,G,H,q3,q4,((zG.of ?_).trans q5).mono S⟩;have B:K (LT.lt (α:=Int) (an (eY k (l.getD m (zj ze.sl))) (eY k (l.getD h (zj ze.sl)))) 0)=M:=aC A;simp only[cv,Q8,e0,aI];rw[eZ,iq];simp only[zM t,e1,e2,e3,e4,B,zi,dd,zt h um]
theorem zgo(f:Nat->zr)(i m x:Nat)(hN:x<=1000)(hm:m<x):∀(s c:Nat)(l:List zr),N l=x->c-i<=s->i<=c->c<=m->dm l=XE f c m->
  ∃e,e.Perm l/\dm e=XE f i m/\zV (cv o) (s+1) (.h21 (i:Int) (c:Int) l) (.tup [],[.vec ze.sl e]):=by
 intro s
 induction s with
 | zero=>
  intro c l v G u d q;obtain rfl:c=i:=by omega
  refine⟨l,.refl l,q,zV.of ?_⟩;have e0:K ((c:Int)>(c:Int))=M:=by simp
  simp only[cv,Q8,e0,zA,zm]
 | succ s y=>
  intro c l v G u d q;by_cases H:i<c
  case neg=>
   obtain rfl:c=i:=by omega
   refine⟨l,.refl l,q,(zV.of ?_).mono S⟩;have e0:K ((c:Int)>(c:Int))=M:=by simp
   simp only[cv,Q8,e0,zA,zm]
  obtain⟨c,rfl⟩:∃z,c=z+1:=⟨c-1,S⟩;have e0:K (((c+1:Nat):Int)>(i:Int))=Z:=AN H;have A:zK ((c+1:Nat):Int) (N l)=Z:=zu S;have B:zK ((c:Nat):Int) (N l)=Z:=zu S;have D:K (c+1<N l)=Z:=by simp;omega
  have E:K (c<N l)=Z:=by simp;omega
  have F:Γ Δ (((c+1:Nat):Int)-1)=(c:Int):=gS c um;have t:=C1 (l:=l) (i:=c) (j:=c+1) S S S;have⟨e,p,P,q3⟩:=y c ((l.set (c+1) (l.getD c (zj ze.sl))).set c (l.getD (c+1) (zj ze.sl))) (by simpa using v) S S S (by rw[t,q];exact zeQ d);refine⟨e,p.trans (jc (i:=c) (j:=c+1) S S _),P,((zG.of ?_).ends q3).mono S⟩;simp only[cv,Q8,e0,F,A,B,D,E,aI,nt,zi]
theorem U8(l:List zr)(a m b mid n p e d:Nat)(hn:N l<=1000)(h0:d<=1000)(hp:p<=2000)(hB:∀c,e<=c->c<d->c+c<p/\p<N l+c)
  (z:∀c A,e<=A->A<=c->c<d->¬ma k (dm l (p-c)) (dm l c)->¬ma k (dm l (p-A)) (dm l A)):∀(s i j:Nat),j-i<=s->e<=i->i<=j->j<=d->
  (∀c,e<=c->c<i->¬ma k (dm l (p-c)) (dm l c))->(∀c,j<=c->c<d->ma k (dm l (p-c)) (dm l c))->
  ∃x,e<=x/\x<=d/\(∀c,e<=c->c<x->¬ma k (dm l (p-c)) (dm l c))/\(∀c,x<=c->c<d->ma k (dm l (p-c)) (dm l c))/\zG (cv o) s (.h33 (a:Int) (m:Int) (b:Int) k (mid:Int) (n:Int) (i:Int) (j:Int) (p:Int) l) (.h33 (a:Int) (m:Int) (b:Int) k (mid:Int) (n:Int) (x:Int) (x:Int) (p:Int) l):=by
 intro s
 induction s with
 | zero=>
  intro i j h1 q h3 t u v;obtain rfl:i=j:=by omega
  exact⟨i,q,t,u,v,zG.refl _⟩
 | succ s IH=>
  intro i j h1 q h3 t u v;by_cases y:i<j
  case neg=>
   obtain rfl:i=j:=by omega
   exact⟨i,q,t,u,v,(zG.refl _).mono S⟩
  have e0:=nD i j S;have E:i<=(i+j)/2/\(i+j)/2<j:=by omega
  generalize(i+j)/2=h at e0 E;have⟨b1,b2⟩:=hB h S S;have e5:Γ Δ ((p:Int)-(h:Int))=((p-h:Nat):Int):=by rw[wI _ S S];omega
  have e1:zK ((h:Nat):Int) (N l)=Z:=zu S;have e2:K (h<N l)=Z:=by simp;omega
  have e3:zK ((p-h:Nat):Int) (N l)=Z:=zu S;have e4:K (p-h<N l)=Z:=by simp;omega
  have⟨w1,w2⟩:=sE (P:=λc=>¬ma k (dm l (p-c)) (dm l c)) (lo:=e) (r0:=d) z u (λc x1 x2 x3=>x3 (v c x1 x2)) q E.1 E.2 t;by_cases B:ma k (l.getD (p-h) (zj ze.sl)) (l.getD h (zj ze.sl))
  .have⟨x,F,G,H,q4,q5⟩:=IH i h S q S S u (λc x1 x2=>kF λx3=>w2 (λx4=>x4 B) c x1 x2 x3);refine⟨x,F,G,H,q4,((zG.of ?_).trans q5).mono S⟩;have D:K (LT.lt (α:=Int) (an (eY k (l.getD (p-h) (zj ze.sl))) (eY k (l.getD h (zj ze.sl)))) 0)=Z:=zC B;simp only[cv,Q8,e0,e5,aI];rw[eZ,iq];simp only[zM y,e1,e2,e3,e4,D,zi,bW,zA,zm]
  .have⟨x,F,G,H,q4,q5⟩:=IH (h+1) j S S S t (w1 B) v;refine⟨x,F,G,H,q4,((zG.of ?_).trans q5).mono S⟩;have D:K (LT.lt (α:=Int) (an (eY k (l.getD (p-h) (zj ze.sl))) (eY k (l.getD h (zj ze.sl)))) 0)=M:=aC B;simp only[cv,Q8,e0,e5,aI];rw[eZ,iq];simp only[zM y,e1,e2,e3,e4,D,zi,dd,zt h um]
end
end
end Cad
