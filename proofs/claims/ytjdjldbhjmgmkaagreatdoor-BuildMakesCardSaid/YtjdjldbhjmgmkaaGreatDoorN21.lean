/- Statements. -/
import Derived.Test.YtjdjldbhjmgmkaaGreatDoorN20
namespace Cad
open Go Go.Proofs
open List renaming length->Io,length->N
open IntKind renaming wrap->Γ,i64->Δ
open Tr renaming val->Q8
open Bool renaming true->Z,false->M
open Option renaming some->Q1,some->Y
open Decidable renaming decide->K,decide->Q0
open Int renaming toNat->W
open List (getD)
open List renaming getD->T
open Tr (chk br re)
open AV (nils agg tup ptr kb str sl)
open Cad renaming ow->S,zj->Q,ai->J,ze->R,Sem->L
set_option maxHeartbeats 4000000
noncomputable section
theorem wi{α:Type}(p:α->Bool):∀(l:List α)(i:Nat),(!Q0 (al p l i>=0))=Z↔∀x∈l,p x=M
 | [],i=>by
  grind[al]
 | y::r,i=>by
  refine⟨λh=>rY p _ i h,λh=>?_⟩;rw[al,h y sw];exact(wi p r (i+1)).2 λx a=>h x (by simp[a])
theorem ki{x:zS}(A:N x.2.2.2.1<=1000)(B:N x.2.2.2.2.1<=1000)(C:N x.2.2.2.2.2.2.1<=1000)(D:N x.2.2.2.2.2.2.2.1<=1000)(u:N x.2.2.2.2.2.2.2.2.2.1<=1000)(v:N x.2.2.2.2.2.2.2.2.2.2.1<=1000):
  iU x=Z↔x.2.1=[]/\x.2.2.1=[]/\x.2.2.2.2.2.1=[]/\x.2.2.2.2.2.2.2.2.2.2.2.2=[]/\x.2.2.2.1=[]/\x.2.2.2.2.1=[]/\x.2.2.2.2.2.2.1=[]/\x.2.2.2.2.2.2.2.1=[]/\x.2.2.2.2.2.2.2.2.2.1=[]/\x.2.2.2.2.2.2.2.2.2.2.1=[]/\x.2.2.2.2.2.2.2.2.1=gz/\x.2.2.2.2.2.2.2.2.2.2.2.1=gz:=by
 unfold iU
 have w:(Γ Δ (Γ Δ (Γ Δ (Γ Δ (Γ Δ ((↑(N x.2.2.2.1):Int)+(↑(N x.2.2.2.2.1):Int))+(↑(N x.2.2.2.2.2.2.1):Int))+(↑(N x.2.2.2.2.2.2.2.1):Int))+(↑(N x.2.2.2.2.2.2.2.2.2.1):Int))+(↑(N x.2.2.2.2.2.2.2.2.2.2.1):Int)))=
   ((N x.2.2.2.1+N x.2.2.2.2.1+N x.2.2.2.2.2.2.1+N x.2.2.2.2.2.2.2.1+N x.2.2.2.2.2.2.2.2.2.1+N x.2.2.2.2.2.2.2.2.2.2.1:Nat):Int):=by
  have g:∀n:Nat,n<=10000->Γ Δ (n:Int)=(n:Int):=λn E=>zcC n (by omega)
  rw[<-wK,g _ (by omega),<-wK,g _ (by omega),<-wK,g _ (by omega),<-wK,g _ (by omega),<-wK,g _ (by omega)]
 rw[w];constructor
 .intro h;obtain⟨k,h⟩:=de h;obtain⟨l,h⟩:=de h;obtain⟨y,z⟩:=de h;simp only[bX,List.append_eq_nil_iff]at k;obtain⟨⟨⟨a,e⟩,i⟩,j⟩:=k;have l:N x.2.2.2.1+N x.2.2.2.2.1+N x.2.2.2.2.2.2.1+N x.2.2.2.2.2.2.2.1+N x.2.2.2.2.2.2.2.2.2.1+N x.2.2.2.2.2.2.2.2.2.2.1=0:=by
   have:=bV l;exact Int.ofNat.inj this
  refine⟨a,e,i,j,?_,?_,?_,?_,?_,?_,oK.1 y,oK.1 z⟩<;>exact DY (by omega)
 .rintro⟨a,e,i,j,m,o,p,q,s,b,c,d⟩;rw[a,e,i,j,m,o,p,q,s,b,c,d,show iX gz=Z from rfl];rfl
theorem zcd(s:zS):fx s=(iu s&&((cut (nM s)).2==0)):=by grind[fx,sH]
theorem zjH(s:zN):dH s=aD s:=rfl
variable {s:zS}
theorem J7(h:yX s){t:zN}{o:zS}{a:Bool}(e:ft s=Y (t,o,a,()))(P:N t<=900000)(A:DN o):
  ∃t',qw s=Y (t',(a&&(aD s.2.1&&(ir o s&&((cut t).2==(0:Int))))),()):=by
 have U:=h.sh.table;have k:yn s=Z:=by unfold yn;rw[e];rfl
 have l:Dx s=(t,o,a):=by unfold Dx;rw[e];rfl
 have⟨F,_⟩:=uh (b:=s) A;have D:=cI (s:=s.2.1) S;have E:=fS (s:=s.2.1) S;have B:=zbF (s:=t) S;have C:=zf2 (s:=t) S;have m:yn (s.1,s.2.1,s.q.1,s.r.1,s.t.1,s.u.1,s.v.1,s.w.1,s.x.1,s.y.1,s.z.1,s.s.1,s.p)=Z:=k;have n:Dx (s.1,s.2.1,s.q.1,s.r.1,s.t.1,s.u.1,s.v.1,s.w.1,s.x.1,s.y.1,s.z.1,s.s.1,s.p)=(t,o,a):=l;have G:Dv (o.1,o.2.1,o.q.1,o.r.1,o.t.1,o.u.1,o.v.1,o.w.1,o.x.1,o.y.1,o.z.1,o.s.1,o.p) (s.1,s.2.1,s.q.1,s.r.1,s.t.1,s.u.1,s.v.1,s.w.1,s.x.1,s.y.1,s.z.1,s.s.1,s.p)=Z:=F;have H:ir (o.1,o.2.1,o.q.1,o.r.1,o.t.1,o.u.1,o.v.1,o.w.1,o.x.1,o.y.1,o.z.1,o.s.1,o.p) (s.1,s.2.1,s.q.1,s.r.1,s.t.1,s.u.1,s.v.1,s.w.1,s.x.1,s.y.1,s.z.1,s.s.1,s.p)=ir o s:=rfl;have d:∃t' b,(znp s).val=Y (.inr (.tup [.str t',b],[]))/\(b=.kb Z/\(a&&(aD s.2.1&&(ir o s&&((cut t).2==(0:Int)))))=Z\/(b=.kb M/\(a&&(aD s.2.1&&(ir o s&&((cut t).2==(0:Int)))))=M)):=by
  simp only[znp,Q8,zn,m,n,G,H,D,E,B,C,zi];generalize ir o s=g;generalize aD s.2.1=i;generalize((cut t).2==(0:Int))=j;cases a<;>cases i<;>cases g<;>cases j<;>first|exact⟨_,_,rfl,.inl ⟨rfl,rfl⟩⟩|exact⟨_,_,rfl,.inr ⟨rfl,rfl⟩⟩
 have⟨t',b,d,c⟩:=d;refine⟨t',zQ d ?_⟩;rcases c with⟨rfl,c⟩|⟨rfl,c⟩<;>rw[c]<;>rfl
theorem Ss(h:yX s):∃t b,qw s=Y (t,b,()):=by have⟨t,o,d,x,a,c⟩:=Sw h;grind[J7]
theorem UB(h:yX s)(o:s.1=[99,111,112,121]):iu s=(mC s&&(aD s.2.1&&ir (s.1,s.2.1,s.2.2.1,s.2.2.2.1,[],[],[],[],s.2.2.2.2.2.2.2.2.1,[],[],gz,[]) s)):=by have C:=h.sh.names.1;have d:=h.sh.cols.1;have i:=h.sh.uniques.1;have j:=h.sh.refs.1;have l:=h.sh.row;have k:=h.sh.sets.1;obtain⟨m,n,q,u,v,w,y,z,A,B,p⟩:=zfR o;obtain⟨_,D⟩:=fw (s:=s) (g:=_) (b:=_) (by simp only[xu,Q8,m,n,q,u,v,w,y,z,A,B,p,zi,zm,zA,zn];exact rfl);obtain⟨_,c⟩:=uh (a:=(s.1,s.2.1,s.2.2.1,s.2.2.2.1,[],[],[],[],s.2.2.2.2.2.2.2.2.1,[],[],gz,[])) (b:=s) (gG h (.inl rfl) (.inr rfl) (.inr rfl) (.inr rfl) (.inl rfl) (.inr rfl) (.inr rfl) (.inr rfl));have e:=ki (x:=(s.1,[],[],[],s.2.2.2.2.1,s.2.2.2.2.2.1,s.2.2.2.2.2.2.1,s.2.2.2.2.2.2.2.1,gz,s.2.2.2.2.2.2.2.2.2.1,s.2.2.2.2.2.2.2.2.2.2.1,s.2.2.2.2.2.2.2.2.2.2.2.1,s.2.2.2.2.2.2.2.2.2.2.2.2)) (by simp) (by simpa using aV d (by omega)) (by simpa using aV i (by omega)) (by simpa using aV j (by omega)) (by simpa using aV l (by omega)) (by simpa using aV k (by omega));grind[g9,wi,zjH,mC]
theorem UC(h:yX s)(o:s.1=fD):iu s=(qc s&&(aD s.2.1&&ir (s.1,s.2.1,s.q.1,[],[],s.u.1,[],[],s.x.1,[],[],gz,s.p) s)):=by have B:=h.sh.names.1;have A:=h.sh.cols.1;have D:=h.sh.uniques.1;have E:=h.sh.refs.1;have G:=h.sh.row;have F:=h.sh.sets.1;obtain⟨i,j,k,l,m,n,v,w,y,z,d,e⟩:=zfS o;obtain⟨_,C⟩:=fw (s:=s) (g:=_) (b:=_) (by simp only[xu,Q8,i,j,k,l,m,n,v,w,y,z,d,e,zi,zm,zA,zn];exact rfl);obtain⟨_,c⟩:=uh (a:=(s.1,s.2.1,s.q.1,[],[],s.u.1,[],[],s.x.1,[],[],gz,s.p)) (b:=s) (gG h (.inr rfl) (.inr rfl) (.inr rfl) (.inr rfl) (.inl rfl) (.inr rfl) (.inr rfl) (.inr rfl));grind[ki,g9,qc,dH,aD]
theorem Pg(h:yX s)(o:s.1=[103,114,111,117,112]):iu s=(iI s&&(aD s.2.1&&ir (s.1,s.2.1,s.2.2.1,s.2.2.2.1,[],[],[],[],s.2.2.2.2.2.2.2.2.1,[],[],gz,[]) s)):=by
 have hn:=h.sh.names.1;have n:=h.sh.cols.1;have z:=h.sh.uniques.1;have A:=h.sh.refs.1;have C:=h.sh.row;have B:=h.sh.sets.1;obtain⟨D,E,F,G,H,P,U,p7,p8,p9,p,i,j⟩:=za8 o;obtain⟨_,w⟩:=fw (s:=s) (g:=_) (b:=_) (by simp only[xu,Q8,D,E,F,G,H,P,U,p7,p8,p9,p,i,j,zi,zm,zA,zn];exact rfl);obtain⟨_,c⟩:=uh (a:=(s.1,s.2.1,s.2.2.1,s.2.2.2.1,[],[],[],[],s.2.2.2.2.2.2.2.2.1,[],[],gz,[])) (b:=s) (gG h (.inl rfl) (.inr rfl) (.inr rfl) (.inr rfl) (.inl rfl) (.inr rfl) (.inr rfl) (.inr rfl));have d:=ki (x:=(s.1,[],[],[],s.2.2.2.2.1,s.2.2.2.2.2.1,s.2.2.2.2.2.2.1,s.2.2.2.2.2.2.2.1,gz,s.2.2.2.2.2.2.2.2.2.1,s.2.2.2.2.2.2.2.2.2.2.1,s.2.2.2.2.2.2.2.2.2.2.2.1,s.2.2.2.2.2.2.2.2.2.2.2.2)) (by simp) (by simpa using aV n (by omega)) (by simpa using aV z (by omega)) (by simpa using aV A (by omega)) (by simpa using aV C (by omega)) (by simpa using aV B (by omega));have q:gw (s.1,[],[],[],s.2.2.2.2.1,s.2.2.2.2.2.1,s.2.2.2.2.2.2.1,s.2.2.2.2.2.2.2.1,gz,s.2.2.2.2.2.2.2.2.2.1,s.2.2.2.2.2.2.2.2.2.2.1,s.2.2.2.2.2.2.2.2.2.2.2.1,s.2.2.2.2.2.2.2.2.2.2.2.2)=Z:=g9 (by simp) (by simp) (by have:=h.sh.key;simpa using this) (by have:=h.sh.role;simpa using this);rw[w];apply oE.2;have l:ir (s.1,s.2.1,s.2.2.1,s.2.2.2.1,[],[],[],[],s.2.2.2.2.2.2.2.2.1,[],[],gz,[]) s=Z↔iU (s.1,[],[],[],s.2.2.2.2.1,s.2.2.2.2.2.1,s.2.2.2.2.2.2.1,s.2.2.2.2.2.2.2.1,gz,s.2.2.2.2.2.2.2.2.2.1,s.2.2.2.2.2.2.2.2.2.2.1,s.2.2.2.2.2.2.2.2.2.2.2.1,s.2.2.2.2.2.2.2.2.2.2.2.2)=Z:=by
  rw[c,d];obtain⟨s1,s2,s3,m,s5,s6,s7,s8,s9,h0,h1,h2,h3⟩:=s;simp only[cQ,true_and];constructor
  .intro k;simp_all
  .intro k;simp_all
 have e:=wi (λx=>!dH x) s.2.2.2.1 0;have u:(cond (cond (K ((↑(N s.2.2.2.1):Int)<2)) Z (K ((↑(N s.2.2.2.1):Int)>2))) M (cond (!Q0 (al (λx=>!dH x) s.2.2.2.1 0>=0)) (da s.2.2.2.2.2.2.2.2.1) M))=(K (N s.2.2.2.1=2)&&(da s.2.2.2.2.2.2.2.2.1&&(aD (s.2.2.2.1.getD 0 [])&&aD (s.2.2.2.1.getD 1 [])))):=by
  by_cases a:N s.2.2.2.1=2
  .rw[aC (show¬(↑(N s.2.2.2.1):Int)<2 by omega),aC (show¬(↑(N s.2.2.2.1):Int)>2 by omega),zC a];have v:(!Q0 (al (λx=>!dH x) s.2.2.2.1 0>=0))=(aD (s.2.2.2.1.getD 0 [])&&aD (s.2.2.2.1.getD 1 [])):=by
    apply oE.2;rw[e,aO];obtain⟨s1,s2,s3,m,s5⟩:=s
    match m,a with
    |[x,y],_=>simp[zjH]
   grind
  .grind
 grind[iI,dH,aD]
theorem vl(p:zY):nJ p=Y (bY p.2.1 p.q.1,()):=by
 unfold bY;by_cases h:(p.q.1==[])=Z
 .rw[zf h];refine zQ (r:=(.vec 0,[.vec Sh.str [p.2.1]])) ?_ rfl;simp only[zne,Q8,h];rfl
 .rw[zh h];have h:(p.q.1==[])=M:=by simpa using h
  refine zQ (r:=(.vec 0,[.vec Sh.str ([p.2.1]++[p.q.1])])) ?_ rfl;simp only[zne,Q8,h];rfl
theorem vj(p:zY):kO p=Z:=by unfold kO;rw[vl];rfl
theorem xK(p:zY):mF p=bY p.2.1 p.q.1:=by unfold mF;rw[vl];rfl
theorem B9(x:zN):∀(l:List zN)(i:Nat),GE.ge (α:=Int) (jq x l (i:Int)) 0↔x∈l
 | [],i=>by
  rw[jq];exact⟨λh=>zB h (by decide),λh=>by cases h⟩
 | a::r,i=>by
  rw[jq];split
  .rename_i h;have:x=a:=by simpa using h
   subst this;exact⟨λ_=>uO,λ_=>Int.natCast_nonneg i⟩
  next h=>have:=B9 x r (i+1);rw[wK]at this;rw[ce];refine⟨λb=>.inr (this.1 b),λb=>this.2 (b.resolve_left ?_)⟩;rintro rfl;simp at h
theorem my(l:List zN)(x:zN):aP l x=Z↔x∈l:=by unfold aP;rw[decide_eq_true_iff];exact B9 x l 0
theorem Mh{l:List zN}{s:zN}(o:N l<=1000000):Ci l s=Z/\PJ l s=aP l s:=by
 have a:UM l s=Y (aP l s,()):=by
  rcases nP (t:=SU) (Φ:=λr=>r=(.kb Z,[])) 1 (λi=>.h2 l s (i:Int)) (λi=>∀h:i<N l,l[i]≠s) (N l) (λi x _=>by
   have n:(SU (.h2 l s (i:Int))).val=if(l[i]==s)=Z then Y (.inr (.kb Z,[]))else Y (.inl (.h2 l s ((i+1:Nat):Int))):=by
    show(SU (.h2 _ _ _)).val=_;simp only[SU,Q8,zP _ _ x,zM x,zu x,zi];rw[zt i um]
   by_cases h:l[i]=s
   .exact .inr ⟨λk=>k x h,_,zV.of (by rw[n,zf (by simpa using h)]),rfl⟩
   .exact .inl ⟨λ_=>h,zG.of (by rw[n,zh (by simpa using h)])⟩)with⟨b,c⟩|⟨b,r,c,rfl⟩
  .have g:aP l s=M:=by
    rw[<-iW,my];intro d;have⟨j,m,e⟩:=fN d;exact b j m m e
   rw[g];refine zz (s:=.h2 l s 0) rfl (c.ends (zV.of (r:=(.kb M,[])) ?_)) S rfl;show(SU (.h2 _ _ _)).val=_;simp only[SU,Q8,zJ];rfl
  .have g:aP l s=Z:=by
    rw[my];apply kF;intro d;exact b λi _ x e=>d (e▸bh x)
   rw[g];exact zz (s:=.h2 l s 0) rfl c S rfl
 exact⟨by unfold Ci;rw[a];rfl,by unfold PJ;rw[a];rfl⟩
theorem B7{α:Type}(p:α->Bool):∀(l:List α)(i:Nat),(!Q0 (al p l i>=0))=Z↔∀x∈l,p x=M
 | [],i=>by
  refine⟨λ_ x a=>(by cases a),λ_=>?_⟩;rw[al];rfl
 | y::r,i=>by
  refine⟨λh=>rY p _ i h,λh=>?_⟩;rw[al,h y sw];exact(B7 p r (i+1)).2 λx a=>h x (by simp[a])
theorem AR{α:Type}(p:α->Bool)(l:List α):K (GE.ge (α:=Int) (al p l 0) 0)=Z↔∃x∈l,p x=Z:=by
 have h:=B7 p l 0;constructor
 .intro a;apply kF;intro d;have:=h.2 λx c=>by
   cases b:p x
   .rfl
   .exact zB ⟨x,c,b⟩ d
  rw[a]at this;cases this
 .rintro⟨x,c,b⟩;cases a:K (GE.ge (α:=Int) (al p l 0) 0)
  .have:=h.1 (by rw[a];rfl) x c;rw[b]at this;cases this
  .rfl
variable {ns:List zN}
theorem LG{d:zT}(H:N d<=1000)(G:∀x∈d,(x:ag).1.t.1.length<=1000)(u:N ns<=1000000):qf d ns=Y (eM d ns,()):=by
 have p:∀i(e:i<N d),(¬(!aP ns d[i].1.1&&K (GE.ge (α:=Int) (al (λf:cC=>aP ns f.2) d[i].1.t.1 0) 0))=Z/\zG sM 1002 (.h2 d ns (i:Int)) (.h2 d ns ((i+1:Nat):Int)))\/
   ((!aP ns d[i].1.1&&K (GE.ge (α:=Int) (al (λf:cC=>aP ns f.2) d[i].1.t.1 0) 0))=Z/\zV sM 1002 (.h2 d ns (i:Int)) (.kb Z,[])):=by
  intro i e;have v:=G _ (bh e);have g:d.getD (i:Int).toNat (Q zl)=d[i]:=zP _ _ e;have q:zG sM 1 (.h2 d ns (i:Int)) (.h5 d ns (i:Int) ((0:Nat):Int)):=zG.of (by
   show(sM (.h2 _ _ _)).val=_;simp only[sM,Q8,zM e,zi];rfl)
  have⟨z,A⟩:=Mh (l:=ns) (s:=d[i].1.1) u;have E:(sM (.h5 d ns (i:Int) (d[i].1.t.1.length:Int))).val=Y (.inl (.h2 d ns ((i+1:Nat):Int))):=by
   show(sM (.h5 _ _ _ _)).val=_;simp only[sM,Q8,g,zJ,zu e,zi];rw[zt i um];rfl
  rcases nP (t:=sM) (Φ:=λr=>r=(.kb Z,[])) 1 (λj=>.h5 d ns (i:Int) (j:Int)) (λj=>∀h:j<d[i].1.t.1.length,¬(!aP ns d[i].1.1&&aP ns (d[i].1.t.1[j]).2)=Z) d[i].1.t.1.length (λj a _=>by
   have D:T d[i].1.t.1 (j:Int).toNat (Q zI)=d[i].1.t.1[j]:=zP _ _ a;have⟨B,C⟩:=Mh (l:=ns) (s:=(d[i].1.t.1[j]).2) u;have m:(sM (.h5 d ns (i:Int) (j:Int))).val=if(!aP ns d[i].1.1&&aP ns (d[i].1.t.1[j]).2)=Z then Y (.inr (.kb Z,[]))else Y (.inl (.h5 d ns (i:Int) ((j+1:Nat):Int))):=by
    show(sM (.h5 _ _ _ _)).val=_;simp only[sM,Q8,g,D,zM a,zu e,zu a,z,A,B,C,zi,eW];rw[zt j um];cases aP ns d[i].1.1<;>cases aP ns (d[i].1.t.1[j]).2<;>rfl
   by_cases h:(!aP ns d[i].1.1&&aP ns (d[i].1.t.1[j]).2)=Z
   .exact .inr ⟨λk=>k a h,_,zV.of (by rw[m,zf h]),rfl⟩
   .exact .inl ⟨λ_=>h,zG.of (by rw[m,zh h])⟩)with⟨b,c⟩|⟨b,r,c,rfl⟩
  .refine .inl ⟨?_,((q.trans c).trans (zG.of E)).mono S⟩;intro h;simp only[aO,AR]at h;have⟨w,f,F,y⟩:=h;obtain⟨j,a,rfl⟩:=fN F;exact b j a a (by rw[w,y];rfl)
  .refine .inr ⟨?_,(q.ends c).mono S⟩;apply kF;intro h;refine b λj _ a o=>h ?_
   simp only[aO]at o;simp only[aO,AR];exact⟨o.1,_,bh a,o.2⟩
 rcases nP (t:=sM) (Φ:=λr=>r=(.kb Z,[])) 1002 (λi=>.h2 d ns (i:Int)) (λi=>∀h:i<N d,¬(!aP ns d[i].1.1&&K (GE.ge (α:=Int) (al (λf:cC=>aP ns f.2) d[i].1.t.1 0) 0))=Z) (N d) (λi e _=>by
  rcases p i e with⟨b,c⟩|⟨b,c⟩
  .exact .inl ⟨λ_=>b,c⟩
  .exact .inr ⟨λk=>k e b,_,c,rfl⟩)with⟨b,c⟩|⟨b,r,c,rfl⟩
 .have n:eM d ns=M:=by
   unfold eM;rw[List.any_eq_false];intro x v;obtain⟨j,a,rfl⟩:=fN v;exact b j a a
  rw[n];have m:(sM (.h2 d ns (N d:Int))).val=Y (.inr (.kb M,[])):=by
   show(sM (.h2 _ _ _)).val=_;simp only[sM,Q8,zJ];rfl
  exact zz (s:=.h2 d ns 0) rfl (c.ends (zV.of m)) S rfl
 .have n:eM d ns=Z:=by
   unfold eM;apply kF;intro h;rw[iW,List.any_eq_false]at h;exact b λi _ e=>h _ (bh e)
  rw[n];exact zz (s:=.h2 d ns 0) rfl c S rfl
theorem Pj{db:zT}(a:N db<=1000)(c:∀x∈db,(x:ag).1.t.1.length<=1000)(b:N ns<=1000000):wn db ns=Z/\A8 db ns=eM db ns:=by have h:=LG a c b;exact⟨by unfold wn;rw[h];rfl,by unfold A8;rw[h];rfl⟩
def pl3(t:ap)(n:List zN):Nat->rp
 |0=>.h3 t.2.1 n ((0:Nat):Int)
 |i+1=>.h3b t.2.1 n ((i+1:Nat):Int) (ke t (n.take (i+1)))
variable {t:ap}{n:List zN}{i:Nat}
theorem zfX(c:N t.2.1<=1000000)(d:N n<=1000)(x:i<N n):(kT (pl3 t n i)).val=if LT.lt (α:=Int) (ab t n[i]) 0 then Y (.inr (.tup [.nils,J 4],[]))else Y (.inl (pl3 t n (i+1))):=by
 have e:gZ t.2.1 n[i]=ab t n[i]:=uc c;have b:fq t.2.1 n[i]=Z:=qr c;have a:ke t (n.take (i+1))=ke t (n.take i)++[ab t n[i]]:=by
  unfold ke;rw[aQ x,gm];rfl
 cases i with
 | zero=>
  have a:ke t (n.take 1)=[ab t n[0]]:=a;show(kT (.h3 _ _ _)).val=_;simp only[kT,Q8,zM x,zu x,zi,zP _ _ x,e,b];by_cases h:LT.lt (α:=Int) (ab t n[0]) 0
  .simp only[zC h,zi,zf h]
  .simp only[aC h,zh h,zA,zm];rw[zf sw,zt 0 um];show _=Y (Sum.inl (rp.h3b _ _ _ (ke t (n.take 1))));rw[a]
 | succ i=>
  show(kT (.h3b _ _ _ _)).val=_;simp only[kT,Q8,zM x,zu x,zi,zP _ _ x,e,b];by_cases h:LT.lt (α:=Int) (ab t n[i+1]) 0
  .simp only[zC h,zi,zf h]
  .simp only[aC h,zh h,zA,zm];rw[zf (by unfold ke;simp;omega),zt (i+1) um];show _=Y (Sum.inl (rp.h3b _ _ _ (ke t (n.take (i+1+1)))));rw[a]
theorem zzK{l:List Int}(u:N l<=1000):zV kT (N l*1001+1) (.h10b ((0:Nat):Int) l) (ite l.Nodup (.tup [.vec 0,J 0],[.vec zk l]) (.tup [.nils,J 7],[])):=by
 have m:∀i(c:i<N l),((∀k(x:k<i),l[k]≠l[i])/\zG kT 1001 (.h10b (i:Int) l) (.h10b ((i+1:Nat):Int) l))\/((¬∀k(x:k<i),l[k]≠l[i])/\zV kT 1001 (.h10b (i:Int) l) (.tup [.nils,J 7],[])):=by
  intro i c;have n:zG kT 1 (.h10b (i:Int) l) (.h13b (i:Int) ((0:Nat):Int) l):=zG.of (by
   show(kT (.h10b _ _)).val=_;simp only[kT,Q8,zM c,zi];rfl)
  rcases nP (t:=kT) (Φ:=λr=>r=(.tup [.nils,J 7],[])) 1 (λk=>.h13b (i:Int) (k:Int) l) (λk=>∀h:k<i,l[k]≠l[i]) i (λk x _=>by
   have d:k<N l:=by omega
   have s:K ((k:Int)<(i:Int))=Z:=zM x;have p:(kT (.h13b (i:Int) (k:Int) l)).val=if(l[i]==l[k])=Z then Y (.inr (.tup [.nils,J 7],[]))else Y (.inl (.h13b (i:Int) ((k+1:Nat):Int) l)):=by
    show(kT (.h13b _ _ _)).val=_;simp only[kT,Q8,s,zu c,zu d,Bt c,Bt d,zP _ _ c,zP _ _ d,zi];rw[zt k um]
   by_cases h:l[i]=l[k]
   .exact .inr ⟨λq=>q x h.symm,_,zV.of (by rw[p,zf (by simpa using h)]),rfl⟩
   .exact .inl ⟨λ_=>Ne.symm h,zG.of (by rw[p,zh (by simpa using h)])⟩)with⟨a,b⟩|⟨a,r,b,rfl⟩
  .refine .inl ⟨λk x=>a k x x,((n.trans b).trans (zG.of ?_)).mono S⟩;show(kT (.h13b _ _ _)).val=_;simp only[kT,Q8,zJ];rw[zt i um];rfl
  .exact .inr ⟨λh=>a λk x _=>h k x,(n.ends b).mono S⟩
 have e:l.Nodup↔∀i,i<N l->∀h:i<N l,∀k(x:k<i),l[k]≠l[i]:=by
  unfold List.Nodup;rw[List.pairwise_iff_getElem];exact⟨λh i _ c k x=>h k i S c x,λh i j c o g=>h j o o i g⟩
 rcases nP (t:=kT) (Φ:=λr=>r=(.tup [.nils,J 7],[])) 1001 (λi=>.h10b (i:Int) l) (λi=>∀h:i<N l,∀k(x:k<i),l[k]≠l[i]) (N l) (λi c _=>by
  rcases m i c with⟨a,b⟩|⟨a,b⟩
  .exact .inl ⟨λ_=>a,b⟩
  .exact .inr ⟨λh=>a (h c),_,b,rfl⟩)with⟨a,b⟩|⟨a,r,b,rfl⟩
 .rw[zf (e.2 a)];refine(b.ends (zV.of ?_)).mono S;show(kT (.h10b _ _)).val=_;simp only[kT,Q8,zJ];rfl
 .rw[zh (λh=>a (e.1 h))];exact b.mono S
theorem LD(A:N t.2.1<=1000000)(B:N n<=1000):qe t.2.1 n=Y (ite (gV t n=0) (ke t n) [],gV t n,()):=by
 have a:(zt3 t.2.1 n).val=Y (.inl (pl3 t n 0)):=rfl
 rcases nP (t:=kT) (Φ:=λr=>r=(.tup [.nils,J 4],[])) 1 (pl3 t n) (λi=>∀h:i<N n,¬LT.lt (α:=Int) (ab t n[i]) 0) (N n) (λi a _=>by
  have u:=zfX A B a;by_cases h:LT.lt (α:=Int) (ab t n[i]) 0
  .exact .inr ⟨λq=>q a h,_,zV.of (by rw[u,zf h]),rfl⟩
  .exact .inl ⟨λ_=>h,zG.of (by rw[u,zh h])⟩)with⟨k,d⟩|⟨k,r,d,rfl⟩
 .have z:∀s∈n,¬LT.lt (α:=Int) (ab t s) 0:=by
   intro s C;obtain⟨j,p,rfl⟩:=fN C;exact k j p p
  have g:gV t n=if(ke t n).Nodup then 0 else 7:=by unfold gV;rw[zf z];rfl
  have D:(ke t n).length=N n:=by unfold ke;simp
  cases b:N n with
  | zero=>
   have c:n=[]:=DY b;subst c;have m:zV kT 2 (pl3 t [] 0) (.tup [.nils,J 0],[]):=by
    refine(zG.of (s':=.h10 0) ?_).ends (zV.of ?_)
    .rfl
    .rfl
   have w:gV t []=0:=by rw[g,zf (by unfold ke;exact List.nodup_nil)]
   rw[w,zf rfl];exact zz a m S rfl
  | succ x=>
   rw[b]at d;have v:ke t (n.take (x+1))=ke t n:=by rw[<-b,eF]
   have m:zG kT 1 (pl3 t n (x+1)) (.h10b ((0:Nat):Int) (ke t n)):=zG.of (by
    show(kT (.h3b _ _ _ _)).val=_;rw[v,<-b];simp only[kT,Q8,zJ];rfl)
   have y:=zzK (l:=ke t n) S;have e:=d.ends (m.ends y);rw[g];by_cases o:(ke t n).Nodup
   .rw[zf o]at e|-;exact zz a e S rfl
   .rw[zh o]at e|-;exact zz a e S rfl
 .have g:gV t n=4:=by
   unfold gV;rw[zh];intro h;exact k λi _ a=>h _ (bh a)
  rw[g];exact zz a d S rfl
theorem Pi{names:List zN}(x:N t.2.1<=1000000)(a:N names<=1000):qd t.2.1 names=Z/\tK t.2.1 names=(ite (gV t names=0) (ke t names) [],gV t names):=by have h:=LD x a;exact⟨by unfold qd;rw[h];rfl,by unfold tK;rw[h];rfl⟩
def zeI(e:zg)(c:aZ):Int:=
 if(e.op==[])=Z then 0 else if(cond ((cz e c).2==0) (cond ((cz e c).1!=3) ((cz e c).1!=0) M) M)=Z then 5 else(cz e c).2
theorem Xe{m:zg}{d:aZ}(b:vB m)(i:N d<=1000000)(j:(m.op==[])=M->dW m=Z):Dn m d=Y (zeI m d,()):=by
 unfold zeI;cases x:(m.op==[])
 .have h:=j x;have c:=pd b;have e:=tV b;have a:=Pu i h;have l:qn m d=Z:=by unfold qn;rw[a];rfl
  have n:jw m d=cz m d:=by unfold jw;rw[a];rfl
  have g:(cond ((cz m d).2==0) (cond ((cz m d).1!=0) ((cz m d).1!=3) M) M)=(cond ((cz m d).2==0) (cond ((cz m d).1!=3) ((cz m d).1!=0) M) M):=by
   cases((cz m d).2==0)<;>cases((cz m d).1!=0)<;>cases((cz m d).1!=3)<;>rfl
  have k:(zfm m d).val=Y (.inr (J (ite ((cond ((cz m d).2==0) (cond ((cz m d).1!=3) ((cz m d).1!=0) M) M)=Z) 5 ((cz m d).2)),[])):=by
   simp only[zfm,Q8,zn,x,c,e,h,l,n,g,zi,zA,zm,bW];split<;>rfl
  exact zQ k rfl
 .refine zQ (r:=(J 0,[])) ?_ rfl;simp only[zfm,Q8,x,zi]
theorem zbC{m:zg}{cols:aZ}(b:vB m)(x:N cols<=1000000)(a:(m.op==[])=M->dW m=Z):qt m cols=Z/\sx m cols=zeI m cols:=by have h:=Xe b x a;exact⟨by unfold qt;rw[h];rfl,by unfold sx;rw[h];rfl⟩
theorem HY(l:List zN):iD l=Lib.join l fO:=by
 have h:=sJ l 0 [];unfold iD;rw[h];have e:l.map nL=l:=by
  rw[show(nL:zN->zN)=id from rfl];exact List.map_id l
 rw[Ip,e]
theorem zgH(h:yX s)(o:s.1=dp)(x:mC s=Z):nM s=SW s:=by unfold mC at x;simp only[aO,bc]at x;rw[(jC (zjW h.sh o)).2,tC,El x.2.1,HY];unfold SW;simp
theorem zgI(h:yX s)(o:s.1=fD)(x:qc s=Z):nM s=sP s:=by unfold qc at x;simp only[aO]at x;rw[(jC (zjY h.sh o)).2,tJ,El x.1];unfold sP;simp
theorem zcs(h:yX s)(o:s.1=na)(x:iI s=Z):nM s=nN s:=by unfold iI at x;simp only[aO,bc]at x;rw[(jC (zjX h.sh o x.1)).2,tG,El x.2.1];unfold nN;simp
theorem Su(h:yX s)(n:lu s.1):∃t,qw s=Y (t,fx s,()):=by
 have k:∀(x:zS)(c:Bool)(t e:zN),ft s=Y (t,x,c,())->N t<=900000->DN x->(c=Z->t=e)->(c=Z->nM s=e)->iu s=(c&&(aD s.2.1&&ir x s))->∃t,qw s=Y (t,fx s,()):=by
  intro x c t e a b d i j l;have⟨t',m⟩:=J7 h a b d;refine⟨t',?_⟩;rw[m,zcd,l];cases g:c
  .rfl
  .rw[j g,i g];cases aD s.2.1<;>cases ir x s<;>rfl
 rcases n with o|o|o
 .have⟨t,a,b,d⟩:=Vl h o;exact k _ _ _ _ a b (gG h (.inl rfl) (.inr rfl) (.inr rfl) (.inr rfl) (.inl rfl) (.inr rfl) (.inr rfl) (.inr rfl)) d (zgH h o) (UB h o)
 .have⟨a,b⟩:=Vm h o;exact k _ _ _ _ a b (gG h (.inr rfl) (.inr rfl) (.inr rfl) (.inr rfl) (.inl rfl) (.inr rfl) (.inr rfl) (.inr rfl)) (λ_=>rfl) (zgI h o) (UC h o)
 .have⟨t,a,b,d⟩:=Qu h o;exact k _ _ _ _ a b (gG h (.inl rfl) (.inr rfl) (.inr rfl) (.inr rfl) (.inl rfl) (.inr rfl) (.inr rfl) (.inr rfl)) d (zcs h o) (Pg h o)
theorem TI{g c:zg->zg->Bool}:∀(l m:List zg),N l=N m->(∀x∈l,∀y,c x y=Z/\(g x y=Z↔x=y))->Wr g c l m=Z/\(eqL g l m=Z↔l=m)
 |[],[],_,_=>⟨rfl,by simp[eqL]⟩
 |[],_::_,h,_=>by simp at h
 |_::_,[],h,_=>by simp at h
 | x::r,y::q,h,hx=>by
  have⟨d,b⟩:=hx x sw y;have⟨i,j⟩:=TI r q (by simpa using h) (λz n=>hx z (by simp[n]));rw[Wr,eqL];rw[d];by_cases k:g x y=Z
  .have:=b.1 k;subst this;simp[k,i,j]
  .have a:x≠y:=λe=>k (b.2 e)
   simp[k,a]
theorem P3:∀(d:Nat)(a b:zg),ot d a=Z->ln d a b=Z/\(gP d a b=Z↔a=b)
 |0,_,_,h=>by cases h
 | d + 1,.mk n v s l,.mk o j p i,h=>by
  rw[ot]at h;simp only[aO,bc,ep]at h;have⟨_,D⟩:=h;have B:ln (d+1) (.mk n v s l) (.mk o j p i)=(cond (n==o) (cond (eqV v j) (cond (s==p) (E2 (gP d) (ln d) l i) Z) Z) Z):=rfl;have C:gP (d+1) (.mk n v s l) (.mk o j p i)=(cond (n==o) (cond (eqV v j) (cond (s==p) (Ry (gP d) l i) M) M) M):=rfl;rw[B,C];unfold E2 Ry;have u:eqV v j=Z↔v=j:=by unfold eqV;simp[Prod.ext_iff]
  by_cases m:n=o
  .by_cases k:v=j
   .by_cases w:s=p
    .by_cases q:N l=N i
     .have⟨F,G⟩:=TI (g:=gP d) (c:=ln d) l i q (λx E y=>P3 d x y (D x E));have z:((N l:Int)!=(N i:Int))=M:=by rw[<-iW,kl];exact λh=>h q
      rw[z,u.2 k];simp[m,w,F,G,k]
     .have z:((N l:Int)!=(N i:Int))=Z:=kl.2 q;have A:l≠i:=λe=>q (by rw[e])
      rw[z,u.2 k];simp[m,w,A]
    .rw[u.2 k];simp[m,w]
   .have:eqV v j=M:=by rw[<-iW,u];exact k
    rw[this];simp[m,k]
  .simp[m]
variable {h:List Int}
theorem P8{b:List Int}(x:N h<=1000000):ME h b=Z/\(qU h b=Z↔h=b):=by
 have d:∃r,MF h b=Y (r,())/\(r=Z↔h=b):=by
  by_cases a:N h=N b
  .have c:((N h:Int)!=(N b:Int))=M:=by rw[<-iW,kl];exact λx=>x a
   have j:(zfn h b).val=Y (.inl (.h4 h b (N h:Int) 0)):=by
    simp only[zfn,Q8,c];rfl
   rcases nB (t:=zwO) (la:=h) (lb:=b) (λi=>.h4 h b (N h:Int) i) (.inr (.kb Z,[])) (λi=>T h (i:Int).toNat (Q zk)==T b (i:Int).toNat (Q zk)) (λ_ _=>rfl) (λi _ m c=>by rw[bX,zP _ _ m,zP _ _ c]) a x with⟨q,k⟩|⟨q,k⟩
   .exact⟨Z,zz j (k 0 _ rfl) S rfl,by simp[q]⟩
   .exact⟨M,zz j k S rfl,by simp[q]⟩
  .refine⟨M,zQ (r:=J8) ?_ rfl,by simp;exact λe=>a (by rw[e])⟩;simp only[zfn,Q8,kl.2 a,zi]
 have⟨r,g,l⟩:=d;refine⟨by unfold ME;rw[g];rfl,?_⟩;have:qU h b=r:=by unfold qU;rw[g];rfl
 rw[this];exact l
theorem zb3{d b:aZ}(h:N d<=1000000):SF d b=Z/\(Cl d b=Z↔d=b):=by
 have c:∃r,MC d b=Y (r,())/\(r=Z↔d=b):=by
  by_cases x:N d=N b
  .have a:((N d:Int)!=(N b:Int))=M:=by rw[<-iW,kl];exact λh=>h x
   have l:(zft d b).val=Y (.inl (.h4 d b (N d:Int) 0)):=by
    simp only[zft,Q8,a];rfl
   rcases nB (t:=zwP) (la:=d) (lb:=b) (λi=>.h4 d b (N d:Int) i) (.inr (.kb Z,[])) (λi=>((T d (i:Int).toNat (Q zp)).1==(T b (i:Int).toNat (Q zp)).1&&((T d (i:Int).toNat (Q zp)).2.1==(T b (i:Int).toNat (Q zp)).2.1&&((T d (i:Int).toNat (Q zp)).q==(T b (i:Int).toNat (Q zp)).q&&Z)))) (λ_ _=>rfl) (λi _ n a=>by rw[Yx,zP _ _ n,zP _ _ a]) x h with⟨g,k⟩|⟨g,k⟩
   .exact⟨Z,zz l (k 0 _ rfl) S rfl,by simp[g]⟩
   .exact⟨M,zz l k S rfl,by simp[g]⟩
  .refine⟨M,zQ (r:=J8) ?_ rfl,by simp;exact λe=>x (by rw[e])⟩;simp only[zft,Q8,kl.2 x,zi]
 have⟨r,j,m⟩:=c;refine⟨by unfold SF;rw[j];rfl,?_⟩;have:Cl d b=r:=by unfold Cl;rw[j];rfl
 rw[this];exact m
theorem zb4{a b:dK}(h:N a<=1000000):SG a b=Z/\(Cm a b=Z↔a=b):=by
 have d:∃r,MD a b=Y (r,())/\(r=Z↔a=b):=by
  by_cases x:N a=N b
  .have c:((N a:Int)!=(N b:Int))=M:=by rw[<-iW,kl];exact λh=>h x
   have j:(zfu a b).val=Y (.inl (.h4 a b (N a:Int) 0)):=by
    simp only[zfu,Q8,c];rfl
   rcases nB (t:=zwQ) (la:=a) (lb:=b) (λi=>.h4 a b (N a:Int) i) (.inr (.kb Z,[])) (λi=>((T a (i:Int).toNat (Q zI)).1==(T b (i:Int).toNat (Q zI)).1&&((T a (i:Int).toNat (Q zI)).2==(T b (i:Int).toNat (Q zI)).2&&Z))) (λ_ _=>rfl) (λi _ m c=>by rw[zmS,zP _ _ m,zP _ _ c]) x h with⟨q,k⟩|⟨q,k⟩
   .exact⟨Z,zz j (k 0 _ rfl) S rfl,by simp[q]⟩
   .exact⟨M,zz j k S rfl,by simp[q]⟩
  .refine⟨M,zQ (r:=J8) ?_ rfl,by simp;exact λe=>x (by rw[e])⟩;simp only[zfu,Q8,kl.2 x,zi]
 have⟨r,g,l⟩:=d;refine⟨by unfold SG;rw[g];rfl,?_⟩;have:Cm a b=r:=by unfold Cm;rw[g];rfl
 rw[this];exact l
theorem zco{a b:ap}(B:N a.2.1<=1000000)(E:N a.r.1<=1000000)(D:N a.t.1<=1000000)(C:ot 16 a.u=Z):MX a b=Z/\(vt a b=Z↔a=b):=by
 have⟨h,e,x,g,i,m⟩:=a;have⟨c,j,d,k,l,n⟩:=b;have⟨p,w⟩:=zb3 (b:=j) (show N e<=1000000 from B);have⟨q,y⟩:=P8 (b:=k) (show N g<=1000000 from E);have⟨s,z⟩:=zb4 (b:=l) (show N i<=1000000 from D);have⟨v,A⟩:=P3 16 m n C;have o:MY (h,e,x,g,i,m) (c,j,d,k,l,n)=Y ((cond (h==c) (cond (x==d) (cond (Cl e j) (cond (qU g k) (cond (Cm i l) (gP 16 m n) M) M) M) M) M),()):=by
  refine zQ (r:=(.bool _,[])) ?_ rfl;simp only[zt4,Q8,zn,p,q,s,v];rw[zf];cases(h==c)<;>cases(x==d)<;>cases Cl e j<;>cases qU g k<;>cases Cm i l<;>rfl
 refine⟨by unfold MX;rw[o];rfl,?_⟩;have:vt (h,e,x,g,i,m) (c,j,d,k,l,n)=(cond (h==c) (cond (x==d) (cond (Cl e j) (cond (qU g k) (cond (Cm i l) (gP 16 m n) M) M) M) M) M):=by unfold vt;rw[o];rfl
 rw[this];simp only[cQ];rw[<-w,<-y,<-z,<-A];have F:(h==c)=Z↔h=c:=bX;have G:(x==d)=Z↔x=d:=bX;rw[<-F,<-G];cases(h==c)<;>cases(x==d)<;>cases Cl e j<;>cases qU g k<;>cases Cm i l<;>cases gP 16 m n<;>simp
variable {x:zY}
theorem zbd{b:zY}(z:N x.r.1.2.1<=1000000)(D:N x.r.1.r.1<=1000000)(B:N x.r.1.t.1<=1000000)(A:ot 16 x.r.1.u=Z)(E:N x.t.1<=1000000):Lu x b=Z/\(Pb x b=Z↔x=b):=by
 have⟨c,d,e,a,m,g⟩:=x;have⟨i,j,k,h,n,l⟩:=b;have⟨s,w⟩:=zco (b:=h) z D B A;have⟨v,y⟩:=P8 (b:=n) (show N m<=1000000 from E);have o:MX (a.1,a.2.1,a.q.1,a.r.1,a.t.1,a.u) (h.1,h.2.1,h.q.1,h.r.1,h.t.1,h.u)=Z:=s;have C:vt (a.1,a.2.1,a.q.1,a.r.1,a.t.1,a.u) (h.1,h.2.1,h.q.1,h.r.1,h.t.1,h.u)=vt a h:=rfl;have p:Lv (c,d,e,a,m,g) (i,j,k,h,n,l)=Y ((cond (c==i) (cond (d==j) (cond (e==k) (cond (g==l) (cond (vt a h) (qU m n) M) M) M) M) M),()):=by
  refine zQ (r:=(.bool _,[])) ?_ rfl;simp only[ztP,Q8,zn,o,C,v];rw[zf];cases(c==i)<;>cases(d==j)<;>cases(e==k)<;>cases(g==l)<;>cases vt a h<;>rfl
 refine⟨by unfold Lu;rw[p];rfl,?_⟩;have:Pb (c,d,e,a,m,g) (i,j,k,h,n,l)=(cond (c==i) (cond (d==j) (cond (e==k) (cond (g==l) (cond (vt a h) (qU m n) M) M) M) M) M):=by unfold Pb;rw[p];rfl
 rw[this];simp only[cQ];rw[<-w,<-y];have F:(c==i)=Z↔c=i:=bX;have G:(d==j)=Z↔d=j:=bX;have H:(e==k)=Z↔e=k:=bX;have P:(g==l)=Z↔g=l:=bX;rw[<-F,<-G,<-H,<-P];cases(c==i)<;>cases(d==j)<;>cases(e==k)<;>cases(g==l)<;>cases vt a h<;>cases qU m n<;>simp
theorem PD(s:zN):∀(l:zT)(i:Nat),iC s l (i:Int)=al (λx:ag=>x.1.1==s) l i
 |[],_=>rfl
 | x::r,i=>by
  rw[iC,al];have h:=PD s r (i+1);have e:(((i+1:Nat)):Int)=(i:Int)+1:=by omega
  rw[e]at h;by_cases a:(x.1.1==s)=Z
  .rw[zf a,zf a]
  .rw[zh a,zh a,h]
theorem ej(l:zT)(s:zN):mO l s=ao l s:=PD s l 0
variable {b:ag}
theorem eb.keys(h:eb b):∀r∈b.2,zK b.1.q.1 (N r)=Z:=by intro r a;have⟨x,_⟩:=fX h.may;rw[(cq (h.fits r a)).1];exact pW x
theorem Zz(x:ag)(c:Int)(v:zo):K (LT.lt (α:=Int) (al (λr=>bG r c v) x.2 0) 0)=!g7 x c v:=by
 unfold g7;rcases gT (λr=>bG r c v) x.2 0 with h|⟨h,_⟩
 .rw[h];rfl
 .have:K (al (λr=>bG r c v) x.2 0>=0)=Z:=zC S;rw[this,aC S];rfl
theorem L9{db:zT}(w:∀x∈db,eb x)(hw:∀x∈db,Ii x)(hl:N db<=13):∃b,ye db=Y (b,())/\(b=Z↔H6 db):=by
 have v:=nP (t:=uH) (Φ:=IsF) 1010000 (λi=>.h2 db (i:Int)) (λi=>∀f∈(getD db i (zj zl)).1.t.1,LE.le (α:=Int) 0 (ao db f.2)/\∀a∈(getD db i (zj zl)).2,(zO f.1 a).1≠0->g7 (aU db f.2) (aU db f.2).1.q.1 (zO f.1 a)=true) (Io db) (by
  intro i e _;have hm:=cG (d:=zj zl) e;have s1:=(hw _ hm).t.nrf;have s2:=(hw _ hm).rows;have G:=(w _ hm).cols;generalize B:T db i (zj zl)=x at*;have l:(uH (.h2 db (i:Int))).val=Y (.inl (.h5 db (i:Int) ((0:Nat):Int))):=by
   simp only[uH,Q8,zM e];rfl
  have h5:=nP (t:=uH) (Φ:=IsF) 1002 (λk=>.h5 db (i:Int) (k:Int)) (λk=>LE.le (α:=Int) 0 (ao db (T x.1.t.1 k (zj zI)).2)/\∀a∈x.2,(zO (T x.1.t.1 k (zj zI)).1 a).1≠0->g7 (aU db (T x.1.t.1 k (zj zI)).2) (aU db (T x.1.t.1 k (zj zI)).2).1.q.1 (zO (T x.1.t.1 k (zj zI)).1 a)=Z) (N x.1.t.1) (by
   intro k U _;have H:=cG (d:=zj zI) U;have F:=G _ H;generalize hf:T x.1.t.1 k (zj zI)=f at*;have l:(uH (.h5 db (i:Int) (k:Int))).val=if K (LT.lt (α:=Int) (ao db f.2) 0)=Z then Y (.inr (.kb M,[]))else Y (.inl (.h12 db (i:Int) (k:Int) (ao db f.2) ((0:Nat):Int) (f,()))):=by
    simp only[uH,Q8,zu e,aI,B,zM U,zu U,hf,ej,zi];rfl
   by_cases u:LE.le (α:=Int) 0 (ao db f.2)
   .have g1:=zG.of (t:=uH) (s:=.h5 db (i:Int) (k:Int)) (by rw[l,zh (by rw[bc];omega)]);have y:aU db f.2∈db:=cG (by
     rcases BN db f.2 with h|⟨_,h⟩
     .rw[h]at u;exact zB u (by decide)
     .omega)
    have g:=hw _ y;have c:=w _ y;have D:=nP (t:=uH) (Φ:=IsF) 1 (λj=>.h12 db (i:Int) (k:Int) (ao db f.2) (j:Int) (f,())) (λj=>(zO f.1 (T x.2 j (zj ze.sl))).1≠0->g7 (aU db f.2) (aU db f.2).1.q.1 (zO f.1 (T x.2 j (zj ze.sl)))=Z) (N x.2) (by
     intro j P _;have l:(uH (.h12 db (i:Int) (k:Int) (ao db f.2) (j:Int) (f,()))).val=if(cond ((zO f.1 (T x.2 j (zj ze.sl))).1!=0) (!g7 (aU db f.2) (aU db f.2).1.q.1 (zO f.1 (T x.2 j (zj ze.sl)))) M)=Z then Y (.inr (.kb M,[]))else Y (.inl (.h12 db (i:Int) (k:Int) (ao db f.2) ((j+1:Nat):Int) (f,()))):=by
      simp only[uH,Q8,zn,aN,zu e,aI,B,zM P,zu P,F _ (cG (d:=zj ze.sl) P),eu u,Xf g.t c.may c.keys g.rows,zi,nu];rw[zbD g.t c.may c.keys g.rows,Zz];rw[zf (by cases((T (T x.2 j (zj ze.sl)) (W f.1) (zj R)).1!=0)<;>rfl)];rw[zt j um]
     by_cases z:(zO f.1 (T x.2 j (zj ze.sl))).1=0
     .exact .inl ⟨λh=>zB z h,zG.of (by rw[l,zh (by rw[z];simp)])⟩
     .have o:((zO f.1 (T x.2 j (zj ze.sl))).1!=0)=Z:=by simpa using z
      by_cases A:g7 (aU db f.2) (aU db f.2).1.q.1 (zO f.1 (T x.2 j (zj ze.sl)))=Z
      .exact .inl ⟨λ_=>A,zG.of (by rw[l,zh (by rw[A,o];simp)])⟩
      .exact .inr ⟨λh=>A (h z),_,zV.of (by rw[l,zf (by rw[o];simpa using A)]),rfl⟩)
    rcases D with⟨p,m⟩|⟨p,r,m,hr⟩
    .have n:(uH (.h12 db (i:Int) (k:Int) (ao db f.2) (N x.2:Int) (f,()))).val=Y (.inl (.h5 db (i:Int) ((k+1:Nat):Int))):=by
      simp only[uH,Q8,zu e,aI,B,zJ];rw[zt k um];rfl
     refine .inl ⟨⟨u,?_⟩,((g1.trans m).trans (zG.of n)).mono S⟩;exact(aT (Q:=λa=>(zO f.1 a).1≠0->g7 (aU db f.2) (aU db f.2).1.q.1 (zO f.1 a)=Z)).1 p
    .refine .inr ⟨λh=>p ?_,r,(g1.ends m).mono S,hr⟩;exact(aT (Q:=λa=>(zO f.1 a).1≠0->g7 (aU db f.2) (aU db f.2).1.q.1 (zO f.1 a)=Z)).2 h.2
   .exact .inr ⟨λh=>u h.1,_,(zV.of (by rw[l,zf (by rw[bc];omega)])).mono S,rfl⟩)
  rcases h5 with⟨p5,C⟩|⟨p5,r,C,hr⟩
  .have n:(uH (.h5 db (i:Int) (N x.1.t.1:Int))).val=Y (.inl (.h2 db ((i+1:Nat):Int))):=by
    simp only[uH,Q8,zu e,aI,B,zJ];rw[zt i um];rfl
   refine .inl ⟨?_,(((zG.of l).trans C).trans (zG.of n)).mono S⟩;exact(aT (Q:=λf:cC=>LE.le (α:=Int) 0 (ao db f.2)/\∀a∈x.2,(zO f.1 a).1≠0->g7 (aU db f.2) (aU db f.2).1.q.1 (zO f.1 a)=Z)).1 p5
  .refine .inr ⟨λh=>p5 ?_,r,((zG.of l).ends C).mono S,hr⟩;exact(aT (Q:=λf:cC=>LE.le (α:=Int) 0 (ao db f.2)/\∀a∈x.2,(zO f.1 a).1≠0->g7 (aU db f.2) (aU db f.2).1.q.1 (zO f.1 a)=Z)).2 h)
 have hb:(∀i,i<N db->∀f∈(T db i (zj zl)).1.t.1,LE.le (α:=Int) 0 (ao db f.2)/\∀a∈(T db i (zj zl)).2,(zO f.1 a).1≠0->g7 (aU db f.2) (aU db f.2).1.q.1 (zO f.1 a)=Z)↔H6 db:=
  aT (Q:=λx:ag=>∀f∈x.1.t.1,LE.le (α:=Int) 0 (ao db f.2)/\∀a∈x.2,(zO f.1 a).1≠0->g7 (aU db f.2) (aU db f.2).1.q.1 (zO f.1 a)=Z)
 have e:(ztZ db).val=Y (.inl (.h2 db ((0:Nat):Int))):=rfl;rcases v with⟨v,E⟩|⟨v,r,E,h4⟩
 .refine⟨Z,zz e (E.ends (zV.of (r:=(.kb Z,[])) ?_)) S rfl,λ_=>hb.1 v,λ_=>rfl⟩;simp only[uH,Q8,zJ];rfl
 .unfold IsF at h4;subst h4;exact⟨M,zz e E S rfl,λh=>(by cases h),λh=>zB (hb.2 h) v⟩
variable {l:zT}
theorem Mb(D:∀x∈l,Ii x):∃e:Int,sy l=Y (e,())/\(e=0↔jO l):=by
 by_cases v:N l<=12
 case neg=>
  refine⟨13,?_,λh=>(by cases h),λh=>zB h.few v⟩;unfold sy am bT;simp only[i9p,Q8];rw[zf sg];rfl
 have c:(i9p l).val=Y (.inl (.h4 l ((0+1:Nat):Int))):=by
  simp only[i9p,Q8];rw[zh sg];rfl
 have n:=nP (t:=t9p) (Φ:=Err) 1 (λi=>.h4 l ((i+1:Nat):Int)) (λi=>Op.bytesLess (T l i (zj zl)).1.1 (T l (i+1) (zj zl)).1.1=Z) (N l-1) (by
  intro i c _;have E:i<N l:=by omega
  have B:i+1<N l:=by omega
  have s:(t9p (.h4 l ((i+1:Nat):Int))).val=if(!Op.bytesLess (T l i (zj zl)).1.1 (T l (i+1) (zj zl)).1.1)=Z then Y (.inr (J 15,[]))else Y (.inl (.h4 l ((i+1+1:Nat):Int))):=by
   simp only[t9p,gS i um];simp only[Q8,zM B,zu B,zu E,aI,zi];rw[zt (i+1) um]
  by_cases h:Op.bytesLess (T l i (zj zl)).1.1 (T l (i+1) (zj zl)).1.1=Z
  .exact .inl ⟨h,zG.of (by rw[s,zh (by rw[h];simp)])⟩
  .exact .inr ⟨h,_,zV.of (by rw[s,zf (by simpa using h)]),15,rfl,by decide⟩)
 rcases n with⟨z,n⟩|⟨z,r,n,e,m,g⟩
 case inr=>
  subst m;exact⟨e,zz c n S rfl,λh=>zB h g,λh=>zB h.names z⟩
 have A:(t9p (.h4 l ((N l-1+1:Nat):Int))).val=Y (.inl (.h9 l ((0:Nat):Int))):=by
  simp only[t9p,Q8];rw[zh sg];rfl
 have w:=n.trans (zG.of A);have k:=nP (t:=t9p) (Φ:=Err) 1 (λi=>.h9 l (i:Int)) (λi=>eb (T l i (zj zl))) (N l) (by
  intro i c _;have⟨e,m,p⟩:=L5 (D _ (cG (d:=zj zl) c));have y:Gu (T l i (zj zl))=Z:=by unfold Gu;rw[m];rfl
  have j:L4 (T l i (zj zl))=e:=by unfold L4;rw[m];rfl
  have s:(t9p (.h9 l (i:Int))).val=if(e !=0)=Z then Y (.inr (J e,[]))else Y (.inl (.h9 l ((i+1:Nat):Int))):=by
   simp only[t9p,Q8,zn,zM c,zu c,aI,zi,aN,y,j];rw[zt i um]
  by_cases h:e=0
  .exact .inl ⟨p.1 h,zG.of (by rw[s,zh (by rw[h];simp)])⟩
  .exact .inr ⟨λq=>h (p.2 q),_,zV.of (by rw[s,zf (by simpa using h)]),e,rfl,h⟩)
 rcases k with⟨q,k⟩|⟨q,r,k,e,m,g⟩
 case inr=>
  subst m;exact⟨e,zz c (w.ends k) S rfl,λh=>zB h g,λh=>zB ((aT (Q:=eb)).2 h.rels) q⟩
 have a:=(aT (Q:=eb)).1 q;have⟨b,C,o⟩:=L9 (db:=l) a D S;have y:Gx l=Z:=by unfold Gx;rw[C];rfl
 have j:L8 l=b:=by unfold L8;rw[C];rfl
 have u:(t9p (.h9 l (N l:Int))).val=if(!b)=Z then Y (.inr (J 10,[]))else Y (.inr (J 0,[])):=by
  simp only[t9p,Q8,zJ,y,j];rfl
 by_cases h:b=Z
 .exact⟨0,zz c (w.ends (k.ends (zV.of (by rw[u,zh (by rw[h];simp)])))) S rfl,λ_=>⟨v,z,a,o.1 h⟩,λ_=>rfl⟩
 .exact⟨10,zz c (w.ends (k.ends (zV.of (by rw[u,zf (by simpa using h)])))) S rfl,λh=>(by cases h),λF=>zB (o.2 F.bound) h⟩
theorem Fw(x:Int):∀(l:List Int)(i:Nat),(∃j,∃g:j<N l,fF x l (i:Int)=((i+j:Nat):Int)/\l[j]=x/\∀k(d:k<j),l[k]≠x)\/(fF x l (i:Int)=(-1:Int)/\x∉l)
 |[],i=>.inr ⟨rfl,sw⟩
 | a::r,i=>by
  rw[fF];by_cases h:x=a
  .rw[zf (by simpa using h)];exact .inl ⟨0,sw,sw,h.symm,λk d=>zB d S⟩
  .rw[zh (by simpa using h),show((i:Int)+1)=((i+1:Nat):Int) by omega];rcases Fw x r (i+1)with⟨j,g,b,c,m⟩|⟨b,c⟩
   .refine .inl ⟨j+1,by simpa using g,by rw[b];congr 1;omega,c,λk d=>?_⟩;cases k with
    |zero=>exact λe=>h e.symm
    |succ k=>exact m k S
   .exact .inr ⟨b,by simp[c,h]⟩
theorem OH(l:List Int)(x:Int):(∃j,∃a:j<N l,iA l x=(j:Int)/\l[j]=x/\∀k(d:k<j),l[k]≠x)\/(iA l x=(-1:Int)/\x∉l):=by
 rcases Fw x l 0 with⟨j,a,b,c⟩|h
 .exact .inl ⟨j,a,by show fF x l ((0:Nat):Int)=_;rw[b,eI],c⟩
 .exact .inr h
def zgR(c:cK):Prop:=aD c.1=Z/\LE.le (α:=Int) 1 c.2.1/\LE.le (α:=Int) c.2.1 3
theorem mg.col(h:mg t):∀c∈t.2.1,zgR c:=by intro c a;obtain⟨i,x,rfl⟩:=fN a;have:=h.cols i x;rw[bD,aj x,bK]at this;exact⟨this.1,this.2.1,this.q.1⟩
variable {a:zN}
theorem zbh(h:¬LT.lt (α:=Int) (ab t a) 0):W (ab t a)<N t.2.1:=by
 rcases yN t a with x|⟨x,b⟩
 .rw[x]at h;simp at h
 .omega
theorem mg.at(h:mg t){s:zN}(x:¬LT.lt (α:=Int) (ab t s) 0):zgR (T t.2.1 (W (ab t s)) (Q zp)):=h.col _ (Fj _ _ (zbh x))
theorem Oh(x:jO l)(h:(0:Int)<=ao l a):mg (aA l a):=(jD _).1 (x.rels _ (oR h)).may
theorem JQ(h:gV t n=0):(∀s∈n,¬LT.lt (α:=Int) (ab t s) 0)/\(ke t n).Nodup:=by
 unfold gV at h;split at h
 .rename_i x;split at h
  .exact⟨x,by assumption⟩
  .cases h
 .cases h
theorem WV(b:yX s)(a:fx s=Z)(c:lu s.1):aD s.2.1=Z/\da s.x.1=Z/\(s.1=dp->1<=N s.r.1/\N s.r.1<=8)/\(s.1=fD->aD s.p=Z)/\(s.1=na->N s.r.1=2):=by
 have h:=kR a;rcases c with o|o|o
 .rw[UB b o]at h;simp only[aO,mC,bc]at h;exact⟨h.2.1,h.1.2.1,λ_=>h.1.1.2,λk=>(by rw[o]at k;cases k),λk=>(by rw[o]at k;cases k)⟩
 .rw[UC b o]at h;simp only[aO,qc]at h;exact⟨h.2.1,h.1.1,λk=>(by rw[o]at k;cases k),λ_=>h.1.q.1,λk=>(by rw[o]at k;cases k)⟩
 .rw[Pg b o]at h;simp only[aO,iI,bc]at h;exact⟨h.2.1,h.1.2.1,λk=>(by rw[o]at k;cases k),λk=>(by rw[o]at k;cases k),λ_=>h.1.1⟩
abbrev rN(e:Int):ay:=(.tup [zPl,J e],[])
def Ab(r:ay)(x:Int×zY):Prop:=aX r.2 [zZ,zk] r.1=Y (x.2,x.1,())
theorem eO(e:Int):Ab (rN e) (e,lx):=rfl
structure BA (s:zS):Prop where
 wf:vB s.x.1
 may:(s.x.1.op==[])=M->dW s.x.1=Z
theorem zoi(k:BA s)(a:Nat->me)(R:ay){p:zY}(A:Ab R (0,p))(q:p.r.1.u=s.x.1)(B:N p.r.1.2.1<=1000)
  (y:∀i,i<N p.r.1.2.1->(eA (a i)).val=if fq p.r.1.2.1 (T p.r.1.2.1 i (Q zp)).1=Z then(ite ((gZ p.r.1.2.1 (T p.r.1.2.1 i (Q zp)).1!=(i:Int))=Z) (Y (.inr (rN 7))) (Y (.inl (a (i+1)))))else none)
  (z:(eA (a (N p.r.1.2.1))).val=if qt s.x.1 p.r.1.2.1=Z then(ite ((sx s.x.1 p.r.1.2.1!=0)=Z) (Y (.inr (rN (sx s.x.1 p.r.1.2.1)))) (Y (.inr R)))else none):
  ∃r,zV eA (N p.r.1.2.1*1+1) (a 0) r/\Ab r (jn 0 p):=by
 have n:∀i,i<N p.r.1.2.1->(eA (a i)).val=if aL p.r.1.2.1 (T p.r.1.2.1 i (Q zp)).1=(i:Int)then Y (.inl (a (i+1)))else Y (.inr (rN 7)):=by
  intro i h;rw[y i h,zf (qr S),uc S];by_cases c:aL p.r.1.2.1 (T p.r.1.2.1 i (Q zp)).1=(i:Int)
  .rw[zf c,zh (by simpa using c)]
  .rw[zh c,zf (by simpa using c)]
 have⟨v,w⟩:=zbC (cols:=p.r.1.2.1) k.wf S k.may;rw[w,zf v,<-q]at z;have l:yQ p.r.1=if∃i,i<N p.r.1.2.1/\ab p.r.1 (T p.r.1.2.1 i (Q zp)).1≠(i:Int)then 7 else zeI p.r.1.u p.r.1.2.1:=rfl
 unfold jn;rw[zf rfl,l]
 rcases nP (t:=eA) (Φ:=λr=>r=rN 7) 1 a (λi=>aL p.r.1.2.1 (T p.r.1.2.1 i (Q zp)).1=(i:Int)) (N p.r.1.2.1) (λi b _=>by
  grind[zG.of,zV.of])with⟨d,g⟩|⟨d,r,g,rfl⟩
 .have j:¬∃i,i<N p.r.1.2.1/\ab p.r.1 (T p.r.1.2.1 i (Q zp)).1≠(i:Int):=by
   rintro⟨i,b,e⟩;exact e (d i b)
  rw[zh j];by_cases c:zeI p.r.1.u p.r.1.2.1=0
  .rw[zh (by simpa using c)]at z;rw[zf c];exact⟨_,(g.ends (zV.of z)).mono S,A⟩
  .rw[zf (by simpa using c)]at z;rw[zh c];exact⟨_,(g.ends (zV.of z)).mono S,eO _⟩
 .have o:∃i,i<N p.r.1.2.1/\ab p.r.1 (T p.r.1.2.1 i (Q zp)).1≠(i:Int):=by
   apply kF;intro j;refine d λi b=>?_
   apply kF;exact λm=>j ⟨i,b,m⟩
  rw[zf o,zh (by decide)];exact⟨_,g.mono S,eO _⟩
abbrev plQ(z:zq V1):zY:=(z.1,z.2.1,z.q.1,(z.r.1,z.t.1,z.u.1,[],[],z.v.1),z.w.1,z.x.1)
theorem zvv(d:BA s)(a:zq ld)(z:zq zmM)(b:z.v.1=s.x.1)(c:N z.t.1<=1000):
  ∃r,zV eA (N z.t.1*1+1) (.h64 ((0:Nat):Int) (s,()) a z) r/\Ab r (jn 0 (plQ z)):=by
 refine zoi d (p:=plQ z) (λi=>.h64 (i:Int) (s,()) a z) ?R ?h b c (λi h=>?_) ?v
 case v=>
  simp only[eA,rE,Q8,zJ,zn,zA,zm];rfl
 rotate_left
 .grind[eA,Q8,zu,zt,aF]
 unfold Ab;clear b;have⟨g,a,j,k,l,m,e,n,o,q⟩:=z;cases e;rfl
theorem zvw(d:BA s)(a:zq ld)(z:zq V1)(b:z.v.1=s.x.1)(c:N z.t.1<=1000):
  ∃r,zV eA (N z.t.1*1+1) (.h64bb ((0:Nat):Int) (s,()) a z) r/\Ab r (jn 0 (plQ z)):=by
 refine zoi d (p:=plQ z) (λi=>.h64bb (i:Int) (s,()) a z) ?R ?h b c (λi h=>?_) ?v
 case v=>
  simp only[eA,rE,Q8,zJ,zn,zA,zm];rfl
 rotate_left
 .grind[eA,Q8,zu,zt,aF]
 unfold Ab;clear b;have⟨g,a,j,k,l,m,e,n,o,q⟩:=z;cases e;rfl
theorem zvx(d:BA s)(a:zq ld)(z:zq YA)(b:z.v.1=s.x.1)(c:N z.t.1<=1000):
  ∃r,zV eA (N z.t.1*1+1) (.h64bbb ((0:Nat):Int) (s,()) a z) r/\Ab r (jn 0 (plQ z)):=by
 refine zoi d (p:=plQ z) (λi=>.h64bbb (i:Int) (s,()) a z) ?R ?h b c (λi h=>?_) ?v
 case v=>
  simp only[eA,rE,Q8,zJ,zn,zA,zm];rfl
 rotate_left
 .grind[eA,Q8,zu,zt,aF]
 unfold Ab;clear b;have⟨g,a,j,k,l,m,e,n,o,q⟩:=z;cases e;rfl
def Cc(k:Int)(l:List Int):Nat->Int
 |0=>-1
 |i+1=>if l.getD i 0=k then(i:Int)else Cc k l i
theorem OR{k:Int}{h:List Int}{i:Nat}(a:i<N h)(b:h[i]=k)(c:h.Nodup):∀x,x<=N h->Cc k h x=if i<x then(i:Int)else -1
 |0,_=>rfl
 | x+1,d=>by
  rw[Cc,OR a b c x S,bD,aj (by omega:x<N h),bK];grind[List.pairwise_iff_getElem]
theorem OS{k:Int}{h:List Int}(x:k∉h):∀i,i<=N h->Cc k h i=-1
 |0,_=>rfl
 | i+1,a=>by
  rw[Cc,OS x i S,bD,aj (by omega:i<N h),bK,zh];rintro rfl;exact x (bh _)
variable {k:Int}
theorem zar(x:h.Nodup):Cc k h (N h)=iA h k:=by grind[OH,OR,OS]
variable {c d:zN}{on:Int}
theorem zzF(u:BA s)(z:zq ld){b:zN}{l:List Int}(o:N l<=1000)(p:l.Nodup)(g:∀x∈l,zK x (N t.2.1)=Z):
  ∃r k,zV eA k (.h24 ((0:Nat):Int) (s,()) z (a,b,c,d,[],-1,s.x.1,l,on,()) (t,())) r/\k<=10000/\
   Ab r (jn (if LT.lt (α:=Int) (iA l t.q.1) 0 then 1 else 0) (a,b,c,(d,l.map (λx=>T t.2.1 (W x) (Q zp)),iA l t.q.1,[],[],s.x.1),l,on)):=by
 have e:=zG.all (t:=eA) 1 (λi=>.h24 (i:Int) (s,()) z (a,b,c,d,(l.take i).map (λx=>T t.2.1 (W x) (Q zp)),Cc t.q.1 l i,s.x.1,l,on,()) (t,())) (N l) (by
  intro i j;refine zG.of ?_;have v:T l ((i:Int).toNat) (Q zk)=l[i]:=zP l _ j;have w:zK l[i] (N t.2.1)=Z:=g _ (bh j);grind[Cc,eA,Q8,zu,zt,aF,aQ])
 rw[eF,zar p]at e;by_cases h:LT.lt (α:=Int) (iA l t.q.1) 0
 .rw[zf h];refine⟨rN 1,_,e.ends (zV.of ?_),S,eO 1⟩;grind[eA,Q8]
 .rw[zh h];have⟨r,m,n⟩:=zvw u z (a,b,c,d,l.map (λx=>T t.2.1 (W x) (Q zp)),iA l t.q.1,s.x.1,l,on,()) rfl (by simpa using o);refine⟨r,_,e.ends ((zG.of ?_).ends m),sg,n⟩;grind[eA,Q8]
theorem B6(a:Int)(b:zN):∀(l:dK)(i:Nat),GE.ge (α:=Int) (jp a b l (i:Int)) 0↔(a,b)∈l
 | [],i=>by
  grind[jp]
 | x::r,i=>by
  rw[jp];split
  .simp_all
  next h=>have:=B6 a b r (i+1);grind
theorem pS(l:dK)(x:cC):kc l x=Z↔x∈l:=by unfold kc;rw[decide_eq_true_iff];exact B6 x.1 x.2 l 0
def nW(on:Int)(w:zN)(l:dK):Bool:=l.any λf=>f.1==on&&f.2==w
theorem RH(o:Int)(w:zN)(l:dK):nW o w l=kc l (o,w):=by grind[pS,nW]
theorem BZ(o:Int)(w:zN)(l:dK)(f:cC):nW o w (l++[f])=bif nW o w l then Z else bif f.1==o then f.2==w else M:=by grind[nW]
theorem zzH(n:BA s)(z:zq ld){u:ap}{b:zN}(o:N t.2.1<=100)(p:N u.2.1<=100):
  ∃r k,zV eA k (.h48 ((0:Nat):Int) (s,()) z (a,b,c,d,t.2.1,t.q.1,s.x.1,[],on,()) (u,())) r/\k<=10000/\
   Ab r (jn 0 (a,b,c,(d,t.2.1++ju u (N u.2.1),t.q.1,[],[],s.x.1),nX u.q.1 (N u.2.1),on)):=by
 have m:=zG.all (t:=eA) 1 (λi=>.h48 (i:Int) (s,()) z (a,b,c,d,t.2.1++ju u i,t.q.1,s.x.1,nX u.q.1 i,on,()) (u,())) (N u.2.1) (by
  grind[zG.of,mD,JP,nX,ju,eA,Q8,zu,zt,aF])
 have v:(ju u (N u.2.1)).length<=100:=by have:=mD u.q.1 (N u.2.1);unfold ju;rw[cY];omega
 have⟨r,g,j⟩:=zvx n z (a,b,c,d,t.2.1++ju u (N u.2.1),t.q.1,s.x.1,nX u.q.1 (N u.2.1),on,()) rfl sg;have l:zG eA 1 (.h48 (N u.2.1:Int) (s,()) z (a,b,c,d,t.2.1++ju u (N u.2.1),t.q.1,s.x.1,nX u.q.1 (N u.2.1),on,()) (u,())) (.h64bbb ((0:Nat):Int) (s,()) z (a,b,c,d,t.2.1++ju u (N u.2.1),t.q.1,s.x.1,nX u.q.1 (N u.2.1),on,())):=zG.of (by
  simp only[eA,Q8,zJ];rfl)
 have e:t.2.1++ju u 0=t.2.1:=rx _;have h:=m.ends (l.ends g);rw[e]at h;exact⟨r,_,h,sg,j⟩
theorem zzG(A:BA s)(z:zq ld){u:ap}{b:zN}{k0:Int}(B:N t.2.1<=100)(C:N u.2.1<=100)(E:N t.t.1<=1000):
  ∃r k,zV eA k (.h38 ((0:Nat):Int) (s,()) z (a,b,c,d,k0,s.x.1,on,()) (t,()) (u,())) r/\k<=20000/\
   Ab r (jn (if kc t.t.1 (on,s.p)=Z then(if LT.lt (α:=Int) 9 ((N t.2.1:Int)+(N u.2.1:Int))then 13 else 0)else 10) (a,b,c,(d,t.2.1++ju u (N u.2.1),t.q.1,[],[],s.x.1),nX u.q.1 (N u.2.1),on)):=by
 rw[<-RH];by_cases l:0<N t.t.1
 .have g:zG eA 1 (.h38 ((0:Nat):Int) (s,()) z (a,b,c,d,k0,s.x.1,on,()) (t,()) (u,())) (.h38b (nW on s.p (t.t.1.take (0+1))) ((0+1:Nat):Int) (s,()) z (a,b,c,d,k0,s.x.1,on,()) (t,()) (u,())):=zG.of (by
   have e:t.t.1.take (0+1)=[]++[t.t.1[0]]:=aQ l;rw[e,BZ];simp only[eA,rE,Q8,zM l,zu l,zi,zP _ _ l];rw[zt 0 um];cases((t.t.1[0]).1==on)<;>rfl)
  have n:=zG.all (t:=eA) 1 (λi=>.h38b (nW on s.p (t.t.1.take (i+1))) ((i+1:Nat):Int) (s,()) z (a,b,c,d,k0,s.x.1,on,()) (t,()) (u,())) (N t.t.1-1) (by
   intro i j;have j:i+1<N t.t.1:=by omega
   refine zG.of ?_;rw[aQ j,BZ];simp only[eA,rE,Q8,zM j,zu j,zP _ _ j];rw[zt (i+1) um];simp_all)
  have y:N t.t.1-1+1=N t.t.1:=by omega
  rw[y,eF]at n;have F:Γ Δ ((N t.2.1:Int)+(N u.2.1:Int))=(N t.2.1:Int)+(N u.2.1:Int):=mY _ S S;by_cases m:nW on s.p t.t.1=Z
  .rw[zf m];by_cases o:LT.lt (α:=Int) 9 ((N t.2.1:Int)+(N u.2.1:Int))
   .rw[zf o];refine⟨rN 13,_,(g.trans n).ends (zV.of ?_),S,eO 13⟩;grind[eA,Q8]
   .rw[zh o];have⟨r,k,v,D,w⟩:=zzH A z (a:=a) (b:=b) (c:=c) (d:=d) (on:=on) B C;refine⟨r,_,(g.trans n).ends ((zG.of ?_).ends v),S,w⟩;grind[eA,Q8]
  .rw[zh m];have m:nW on s.p t.t.1=M:=by simpa using m
   refine⟨rN 10,_,(g.trans n).ends (zV.of ?_),S,eO 10⟩;grind[eA,Q8]
 .have h:t.t.1=[]:=DY S;rw[h,zh (by unfold nW;simp)];refine⟨rN 10,1,zV.of ?_,S,eO 10⟩;simp only[eA,rE,Q8,h];rfl
theorem C0(h:k≠0):jn k x=(k,lx):=by unfold jn;rw[zh h]
theorem Yy(t:ap)(n:List zN):eX t n=(ke t n).map λx=>T t.2.1 (W x) (Q zp):=by unfold eX ke;rw[qL];rfl
variable {e:zT}
theorem of7(hB:jO e)(hw:yX s)(h6:fx s=Z)(hm:lu s.1)(hb:mi e=(0:Int))(h0:∀x∈e,Ii x)(H:zq ld):
  ∃r k,zV eA k (.h7 e (bY s.q.1 s.p) ((0:Nat):Int) (s,()) H (s.1,s.q.1,s.p,s.2.1,0,s.x.1,0,())) r/\k<=90000/\Ab r (bu e s):=by
 have⟨x7,x5,m1,m2,m3⟩:=WV hw h6 hm;have hs:BA s:=⟨hw.chk,λh=>by
  grind[da,iX]⟩
 have hP:bu e s=if rk e s.q.1 s.p s.2.1=0 then cV e s else(rk e s.q.1 s.p s.2.1,lx):=by
  unfold bu;rw[zf ⟨hm,h6,hb⟩]
 have x6:(bY s.q.1 s.p).length<=2:=by unfold bY;split<;>simp
 rw[hP];clear hP
 rcases nP (t:=eA) (Φ:=λr=>r=rN 6) 1 (λi=>.h7 e (bY s.q.1 s.p) (i:Int) (s,()) H (s.1,s.q.1,s.p,s.2.1,0,s.x.1,0,())) (λi=>∀h:i<(bY s.q.1 s.p).length,LE.le (α:=Int) 0 (ao e (bY s.q.1 s.p)[i])) (bY s.q.1 s.p).length (λi hi _=>by
  have hv:(eA (.h7 e (bY s.q.1 s.p) (i:Int) (s,()) H (s.1,s.q.1,s.p,s.2.1,0,s.x.1,0,()))).val=if LT.lt (α:=Int) (ao e (bY s.q.1 s.p)[i]) 0 then Y (.inr (rN 6))else Y (.inl (.h7 e (bY s.q.1 s.p) ((i+1:Nat):Int) (s,()) H (s.1,s.q.1,s.p,s.2.1,0,s.x.1,0,()))):=by
   simp only[eA,rE,Q8,zM hi,zu hi,zi,zP _ _ hi,ej];rw[zt i um];by_cases c:LT.lt (α:=Int) (ao e (bY s.q.1 s.p)[i]) 0
   .rw[zf c,zf (by simpa using c)]
   .rw[zh c,zh (by simpa using c)]
  grind[zV.of,zG.of])with⟨h1,h2⟩|⟨h1,r,h2,rfl⟩
 rotate_left
 .grind[rk,eO]
 have hA:∀n∈bY s.q.1 s.p,LE.le (α:=Int) 0 (ao e n):=by
  intro n y;obtain⟨j,hj,rfl⟩:=fN y;exact h1 j hj hj
 have m:LE.le (α:=Int) 0 (ao e s.q.1):=hA _ (by unfold bY;split<;>simp);have hE:rk e s.q.1 s.p s.2.1=if(K (GE.ge (α:=Int) (ao e s.2.1) 0)||s.q.1==s.p)=Z then 7 else if eM e (bY s.q.1 s.p)=Z then 10 else 0:=by
  unfold rk;rw[zf hA]
 have x4:=hB.few;have⟨B,C⟩:=Pj (db:=e) (ns:=bY s.q.1 s.p) S (λx hx=>(h0 x hx).short.rf|>λh=>by omega) S;have hT:mg (aA e s.q.1):=Oh hB m;have t8:=hT.n8;have h8:=hw.sh.names.1;have v:(bif K (GE.ge (α:=Int) (ao e s.2.1) 0)then Z else s.q.1==s.p)=(K (GE.ge (α:=Int) (ao e s.2.1) 0)||s.q.1==s.p):=by cases K (GE.ge (α:=Int) (ao e s.2.1) 0)<;>rfl
 rw[hE];by_cases w:(K (GE.ge (α:=Int) (ao e s.2.1) 0)||s.q.1==s.p)=Z
 .rw[zf w,zh (by decide)];refine⟨rN 7,_,h2.ends (zV.of ?_),S,eO 7⟩;grind[eA,Q8,ej]
 rw[zh w];have w:(K (GE.ge (α:=Int) (ao e s.2.1) 0)||s.q.1==s.p)=M:=by simpa using w
 by_cases g:eM e (bY s.q.1 s.p)=Z
 .rw[zf g,zh (by decide)];refine⟨rN 10,_,h2.ends (zV.of ?_),S,eO 10⟩;grind[eA,Q8,ej]
 rw[zh g,zf rfl];have g:eM e (bY s.q.1 s.p)=M:=by simpa using g
 have⟨G,A⟩:=Pi (t:=aA e s.q.1) (names:=s.r.1) S S;have G:qd (T e (W (ao e s.q.1)) (Q zl)).1.2.1 s.r.1=Z:=G;have A:tK (T e (W (ao e s.q.1)) (Q zl)).1.2.1 s.r.1=(ite (gV (aA e s.q.1) s.r.1=0) (ke (aA e s.q.1) s.r.1) [],gV (aA e s.q.1) s.r.1):=A;unfold cV;by_cases o1:(s.1==dp)=Z
 .rw[zf o1];unfold vI;by_cases o:gV (aA e s.q.1) s.r.1=0
  .rw[zf o];have⟨q1,q2⟩:=JQ o;have⟨r,k,P,e2,U⟩:=zzF hs H (t:=aA e s.q.1) (a:=s.1) (b:=s.q.1) (c:=s.p) (d:=s.2.1) (l:=ke (aA e s.q.1) s.r.1) (on:=0) (by unfold ke;rw[cY];omega) q2 (by
    intro x hx;obtain⟨n,y,rfl⟩:=bt.1 hx;exact tu (q1 n y))
   rw[Yy];refine⟨r,_,h2.ends ((zG.of ?_).ends P),S,U⟩;rw[zf o,o]at A;simp only[eA,rE,Q8,zJ,ej,v,w,B,C,g,eu m,o1,G,A,zi,zA,zm,gj];rfl
  .rw[zh o,C0 o];refine⟨_,_,h2.ends (zV.of ?_),S,eO _⟩;rw[zh o]at A;have E:(gV (aA e s.q.1) s.r.1!=0)=Z:=by simpa using o
   simp only[eA,rE,Q8,zJ,ej,v,w,B,C,g,eu m,o1,G,A,E,zi,zA,zm]
 rw[zh o1];by_cases o2:(s.1==fD)=Z
 .rw[zf o2];have hr:=m2 (bV o2);have h3:s.p≠[]:=by intro k;rw[k]at hr;cases hr
  have x3:eT e s.p=aA e s.p:=by unfold eT;rw[zh h3]
  have F:LE.le (α:=Int) 0 (ao e s.p):=hA _ (by unfold bY;rw[zh (by simpa using h3)];simp);have u8:=(Oh hB F).n8;have x2:(aA e s.q.1).t.1.length<=1000:=by have:=(h0 _ (oR m)).short.rf;unfold aA;omega
  have g1:fq (T e (W (ao e s.q.1)) (Q zl)).1.2.1 s.u.1=Z:=qr (by show(aA e s.q.1).2.1.length<=_;omega);have g2:gZ (T e (W (ao e s.q.1)) (Q zl)).1.2.1 s.u.1=ab (aA e s.q.1) s.u.1:=uc (by show(aA e s.q.1).2.1.length<=_;omega);rw[x3];unfold gL;by_cases h4:LT.lt (α:=Int) (ab (aA e s.q.1) s.u.1) 0
  .rw[zf h4,C0 (by decide)];refine⟨rN 4,_,h2.ends (zV.of ?_),S,eO 4⟩;simp only[eA,rE,Q8,zJ,ej,v,w,B,C,g,eu m,eu F,o1,o2,g1,g2,zC h4,zi,zA,zm]
  .rw[zh h4];have⟨r,k,P,e2,U⟩:=zzG hs H (t:=aA e s.q.1) (u:=aA e s.p) (a:=s.1) (b:=s.q.1) (c:=s.p) (d:=s.2.1) (k0:=0) (on:=ab (aA e s.q.1) s.u.1) S S x2;refine⟨r,_,h2.ends ((zG.of ?_).ends P),S,U⟩;simp only[eA,rE,Q8,zJ,ej,v,w,B,C,g,eu m,eu F,o1,o2,g1,g2,aC h4,zi,zA,zm];rfl
 rw[zh o2];have o3:(s.1==na)=Z:=by
  rcases hm with k|k|k
  .rw[k]at o1;exact zB rfl o1
  .rw[k]at o2;exact zB rfl o2
  .rw[k];rfl
 rw[zf o3];have h9:=m3 (bV o3);unfold rS;by_cases o:gV (aA e s.q.1) s.r.1=0
 .rw[zf o];have⟨q1,q2⟩:=JQ o;rw[zf o,o]at A;obtain⟨n0,z,y⟩:∃n0 z,s.r.1=[n0,z]:=by
   match s.r.1,h9 with
   |[a,b],_=>exact⟨a,b,rfl⟩
  have i0:zK (ab (aA e s.q.1) n0) (N (T e (W (ao e s.q.1)) (Q zl)).1.2.1)=Z:=tu (q1 n0 (by rw[y];simp));have i1:zK (ab (aA e s.q.1) z) (N (T e (W (ao e s.q.1)) (Q zl)).1.2.1)=Z:=tu (q1 z (by rw[y];simp));have x0:(ke (aA e s.q.1) s.r.1).getD (W 0) (Q zk)=ab (aA e s.q.1) n0:=by rw[y];rfl
  have x1:(ke (aA e s.q.1) s.r.1).getD (W 1) (Q zk)=ab (aA e s.q.1) z:=by rw[y];rfl
  have xl:(ke (aA e s.q.1) s.r.1).length=2:=by rw[y];rfl
  have b0:zK 0 2=Z:=rfl;have b1:zK 1 2=Z:=rfl;have y1:(eX (aA e s.q.1) s.r.1).getD 1 (Q zp)=T (T e (W (ao e s.q.1)) (Q zl)).1.2.1 (W (ab (aA e s.q.1) z)) (Q zp):=by rw[y];rfl
  have y0:(eX (aA e s.q.1) s.r.1).getD 0 (Q zp)=T (T e (W (ao e s.q.1)) (Q zl)).1.2.1 (W (ab (aA e s.q.1) n0)) (Q zp):=by rw[y];rfl
  unfold AM;rw[y1,y0];by_cases h5:(T (T e (W (ao e s.q.1)) (Q zl)).1.2.1 (W (ab (aA e s.q.1) z)) (Q zp)).2.1=(1:Int)
  .rw[zf h5];have⟨r,P,U⟩:=zvv hs H (s.1,s.q.1,s.p,s.2.1,[((T (T e (W (ao e s.q.1)) (Q zl)).1.2.1 (W (ab (aA e s.q.1) n0)) (Q zp)).1,(T (T e (W (ao e s.q.1)) (Q zl)).1.2.1 (W (ab (aA e s.q.1) n0)) (Q zp)).2.1,Z),((T (T e (W (ao e s.q.1)) (Q zl)).1.2.1 (W (ab (aA e s.q.1) z)) (Q zp)).1,(T (T e (W (ao e s.q.1)) (Q zl)).1.2.1 (W (ab (aA e s.q.1) z)) (Q zp)).2.1,M)],0,s.x.1,ke (aA e s.q.1) s.r.1,0,()) rfl sw;have D:((T (T e (W (ao e s.q.1)) (Q zl)).1.2.1 (W (ab (aA e s.q.1) z)) (Q zp)).2.1!=1)=M:=by rw[h5];rfl
   refine⟨r,_,h2.ends ((zG.of ?_).ends P),sg,U⟩;simp only[eA,rE,Q8,zJ,ej,v,w,B,C,g,eu m,o1,o2,o3,G,A,x0,x1,xl,b0,b1,i0,i1,D,zi,zA,zm,gj];rfl
  .rw[zh h5,C0 (by decide)];have D:((T (T e (W (ao e s.q.1)) (Q zl)).1.2.1 (W (ab (aA e s.q.1) z)) (Q zp)).2.1!=1)=Z:=by simpa using h5
   refine⟨rN 5,_,h2.ends (zV.of ?_),S,eO 5⟩;simp only[eA,rE,Q8,zJ,ej,v,w,B,C,g,eu m,o1,o2,o3,G,A,x0,x1,xl,b0,b1,i0,i1,D,zi,zA,zm,gj]
 .rw[zh o,C0 o];refine⟨_,_,h2.ends (zV.of ?_),S,eO _⟩;rw[zh o]at A;have E:(gV (aA e s.q.1) s.r.1!=0)=Z:=by simpa using o
  simp only[eA,rE,Q8,zJ,ej,v,w,B,C,g,eu m,o1,o2,o3,G,A,E,zi,zA,zm]
theorem zbs(a:∀x∈l,Ii x)(i:yX s):F8 l s=Y ((bu l s).2,(bu l s).1,()):=by
 have d:∀x∈l,il x:=λx A=>(a x A).short
 have⟨e,j,n⟩:=Mb a;have G:Gy l=Z:=by unfold Gy;rw[j];rfl
 have H:Ma l=e:=by unfold Ma;rw[j];rfl
 have B:(WA l s).val=Y (.inr (rN 1))->bu l s=(1,lx)->F8 l s=Y ((bu l s).2,(bu l s).1,()):=by
  intro h v;rw[v];exact zQ h (eO 1)
 have F:∀p:zY,kO p=Z/\mF p=bY p.2.1 p.q.1:=λp=>⟨vj p,xK p⟩
 by_cases c:lu s.1
 .have⟨t,h⟩:=Su i c;have C:jy s=Z:=by unfold jy;rw[h];rfl
  have D:mN s=(t,fx s):=by unfold mN;rw[h];rfl
  have z:(cond (!s.1==dp) (cond (!s.1==fD) (!s.1==na) M) M)=M:=by
   rcases c with k|k|k<;>rw[k]<;>rfl
  by_cases g:fx s=Z
  .by_cases y:e=0
   .have m:=n.1 y;have w:=(jQ d).2 m;have⟨r,k,o,E,u⟩:=of7 m i g c w a ([],[],[],[],0,[],0,0,[],[],0,());refine zz ?_ o S u;grind[WA,Q8,zn]
   grind[WA,Q8,zn,bu,jQ]
  grind[WA,Q8,zn,bu]
 .have⟨t,b,h⟩:=Ss i;have C:jy s=Z:=by unfold jy;rw[h];rfl
  have D:mN s=(t,b):=by unfold mN;rw[h];rfl
  grind[WA,Q8,zn,bu]
theorem ei{α:Type}(p:α->Bool):∀(l:List α)(i:Nat),(al p l i=-1/\∀x∈l,p x=M)\/∃(k:Nat)(h:k<N l),al p l i=((i+k:Nat):Int)/\p l[k]=Z/\∀x∈l.take k,p x=M
 |[],_=>.inl ⟨rfl,sw⟩
 | x::r,i=>by
  unfold al;split
  next h=>exact .inr ⟨0,sw,rfl,h,sw⟩
  .rename_i h;have d:p x=M:=by simpa using h
   rcases ei p r (i+1)with⟨b,c⟩|⟨k,g,b,c,e⟩
   .refine .inl ⟨b,λy a=>?_⟩;rcases ce.1 a with rfl|a
    .exact d
    .exact c y a
   .refine .inr ⟨k+1,by simpa using g,by rw[b];congr 1;omega,by simpa using c,λy a=>?_⟩;rw[List.take_succ_cons]at a;rcases ce.1 a with rfl|a
    .exact d
    .exact e y a
theorem RI(h:ao l a=(i:Int))(c:l.getD i (Q zl)=b):b.1.1=a:=by
 rcases ei (λy:ag=>y.1.1==a) l 0 with⟨q,_⟩|⟨k,d,e,g,_⟩
 .exfalso;have x:al (λy:ag=>y.1.1==a) l 0=(i:Int):=h;rw[q]at x;omega
 .have x:al (λy:ag=>y.1.1==a) l 0=(i:Int):=h;rw[e]at x;obtain rfl:k=i:=by omega
  rw[bD,aj d,bK]at c;subst c;simpa using g
def Re(p:zN->Bool)(t:ap):ap:=(t.1,t.2.1,t.q.1,t.r.1,t.t.1.filter (λf:cC=>p f.2),t.u)
def jS(p:zN->Bool)(x:ag):ag:=(Re p x.1,x.2)
variable {p:zN->Bool}
theorem T9(h:dI t=Z):dI (Re p t)=Z:=by have h:=(jD t).1 h;exact(jD _).2 ⟨h.name,h.n1,h.n8,h.cols,h.uniq,λf x=>h.refs f (List.mem_filter.1 x).1,h.key,h.nn,h.chk⟩
theorem Jr{t:ap}{p:zN->Bool}{o:zr}:∀(r:zr)(i:Int),fk (Re p t) o r i=fk t o r i
 |[],_=>by rw[fk,fk];rfl
 |x::r,i=>by rw[fk,fk,Jr r];rfl
theorem Oi{t:ap}{p:zN->Bool}{o:zr}:∀(r:zr)(i:Int),ig (Re p t) o r i=ig t o r i
 |[],_=>by rw[ig,ig,Jr]
 |x::r,i=>by rw[ig,ig,Oi r]
theorem ZB(h:dI t=Z)(r:zr):cm (Re p t) r=cm t r:=by unfold cm;rw[h,T9 h,Oi];rfl
theorem eb.cut(h:eb b):eb (jS p b) where
 may:=T9 h.may
 few:=h.few
 fits:=λr x=>by
  show cm (Re p b.1) r=0;rw[ZB h.may];exact h.fits r x
 key:=h.key
 uniq:=h.uniq
 rise:=h.rise
theorem zaD(d:jO l){y:ag}(e:b∈l)(k:y∈l)(h:b.1.1=y.1.1):b=y:=by
 have x:l.Pairwise λb y:ag=>Op.bytesLess b.1.1 y.1.1=Z:=(yx (R:=λb y:ag=>Op.bytesLess b.1.1 y.1.1=Z) iF).1 d.names
 obtain⟨i,a,rfl⟩:=fN e;obtain⟨j,c,rfl⟩:=fN k;rcases Nat.lt_trichotomy i j with g|g|g
 .have:=List.pairwise_iff_getElem.1 x i j a c g;rw[h,cF]at this;cases this
 .subst g;rfl
 .have:=List.pairwise_iff_getElem.1 x j i c a g;rw[h,cF]at this;cases this
theorem jz(h:LE.le (α:=Int) 0 (ao l a)):aU l a∈l/\(aU l a).1.1=a:=
 ⟨oR h,RI (i:=W (ao l a)) (Int.toNat_of_nonneg h).symm rfl⟩
theorem jO.src(b:jO l)(q:N e<=12)(s:e.Pairwise λx y:ag=>Op.bytesLess x.1.1 y.1.1=Z)(a:∀y∈e,∃x∈l,y=jS p x)(u:∀n,p n=Z->LE.le (α:=Int) 0 (ao e n)):jO e where
 few:=q
 names:=(yx (R:=λx y:ag=>Op.bytesLess x.1.1 y.1.1=Z) iF).2 s
 rels:=λy i=>by
  obtain⟨x,g,rfl⟩:=a y i;exact(b.rels x g).cut
 bound:=λy i f v=>by
  obtain⟨x,g,rfl⟩:=a y i;have⟨c,d⟩:=List.mem_filter.1 v;have m:=u f.2 d;refine⟨m,λk w A=>?_⟩;have⟨C,D⟩:=b.bound x g f c;have E:=D k w A;have⟨F,o⟩:=jz m;have⟨z,B,h⟩:=a _ F;have⟨G,H⟩:=jz C;have j:z=aU l f.2:=zaD b B G (by rw[H];rw[h]at o;exact o);rw[h,j];exact E
structure jI (ns:List zN) (t t':ap):Prop where
 cols:t'.2.1=t.2.1
 key:t'.q.1=t.q.1
 refs:∀f:cC,f.2∈ns->(f∈t'.t.1↔f∈t.t.1)
section
variable {ns:List zN} {t t':L ae}
theorem jI.place(h:jI ns t t'):ab t'=ab t:=funext λn=>by unfold ab;rw[h.cols]
theorem jI.plc(h:jI ns t t')(l:List zN):gV t' l=gV t l:=by unfold gV;rw[h.place]
theorem jI.ix(h:jI ns t t')(l:List zN):ke t' l=ke t l:=by unfold ke;rw[h.place]
theorem jI.cs(h:jI ns t t')(l:List zN):eX t' l=eX t l:=by unfold eX;rw[h.place,h.cols]
theorem jI.cpy(h:jI ns t t')(l:List zN):vI t' l=vI t l:=by unfold vI;rw[h.plc,h.ix,h.key]
theorem jI.grp(h:jI ns t t')(l:List zN):rS t' l=rS t l/\AM t' l=AM t l:=by unfold rS AM;rw[h.plc,h.cs];exact⟨rfl,rfl⟩
theorem jI.join(h:jI ns t t'){x u:ap}(b:jI ns x u){a w:zN}(c:w∈ns):gL t' u a w=gL t x a w:=by
 have:kc t'.t.1 (ab t a,w)=kc t.t.1 (ab t a,w):=by
  rw[oE,pS,pS];exact h.refs (ab t a,w) c
 unfold gL;rw[h.place,this,h.cols,b.cols]
theorem jI.oth(h:jI ns t t')(n:Nat):ju t' n=ju t n:=by unfold ju;rw[h.key,h.cols]
end
abbrev cU(s:zS):zN:=s.p
theorem TM(x:b∈l):LE.le (α:=Int) 0 (ao l b.1.1):=by
 rcases ei (λy:ag=>y.1.1==b.1.1) l 0 with⟨_,h⟩|⟨k,_,h,_⟩
 .have:=h b x;simp at this
 .have h:ao l b.1.1=((0+k:Nat):Int):=h;rw[h];exact Int.natCast_nonneg _
theorem zbl(k:(bu l s).1=0)(E:mi e=(0:Int))(v:∀n∈bY s.q.1 (cU s),LE.le (α:=Int) 0 (ao e n)/\jI (bY s.q.1 (cU s)) (aA l n) (aA e n))
  (c:∀x∈e,x.1.1∈bY s.q.1 (cU s)/\∃y∈l,(y:ag).1.1=x.1.1) (G:s.1=fD->cU s≠[]):bu e s=bu l s/\bu l s=cV l s:=by
 unfold bu at k;split at k
 case isFalse=>cases k
 rename_i w;split at k
 case isFalse h=>exact zB k h
 rename_i j;have d:bu l s=cV l s:=by unfold bu;rw[zf w,zf j]
 refine⟨?_,d⟩;rw[d];have m:rk e s.q.1 (cU s) s.2.1=0:=by
  unfold rk at j|-;split at j
  case isFalse=>cases j
  rw[zf λn F=>(v n F).1];split at j
  case isTrue=>cases j
  rename_i C;have D:¬(K (GE.ge (α:=Int) (ao e s.2.1) 0)||s.q.1==cU s)=Z:=by
   intro g;apply C;rcases(oF _ _).mp g with g|g
   .have p:LE.le (α:=Int) 0 (ao e s.2.1):=lq g;have⟨U,m2⟩:=jz p;have⟨_,y,P,a⟩:=c _ U;have:=TM P;rw[a,m2]at this;rw[oF];exact .inl (zC this)
   .rw[oF];exact .inr g
  rw[zh D,zh];unfold eM;intro g;have⟨x,H,p⟩:=List.any_eq_true.1 g;rw[(my _ _).2 (c x H).1]at p;simp at p
 have i:s.q.1∈bY s.q.1 (cU s):=by unfold bY;split<;>simp
 have b:=(v _ i).2;unfold bu;rw[zf ⟨w.1,w.2.1,E⟩,zf m];unfold cV;by_cases o1:(s.1==dp)=Z
 .rw[zf o1,zf o1,b.cpy,b.cs,b.ix,b.key]
 rw[zh o1,zh o1];by_cases o2:(s.1==fD)=Z
 .have z:=G (bV o2);have o:cU s∈bY s.q.1 (cU s):=by
   unfold bY;rw[zh (by simpa using z)];simp
  have u:=(v _ o).2;have A:eT e (cU s)=aA e (cU s):=by unfold eT;rw[zh z]
  have B:eT l (cU s)=aA l (cU s):=by unfold eT;rw[zh z]
  rw[zf o2,zf o2,A,B,b.join u o,b.cols,b.key,b.place,u.cols,u.key,u.oth]
 rw[zh o2,zh o2,(b.grp _).1,(b.grp _).2,b.ix]
theorem KB{g c b:Bool}(h:(g&&(cond c b M))=Z):b=Z:=by cases g<;>cases c<;>simp_all
theorem zfF(h:iu s=Z)(sh:nR s)(ho:lu s.1):
  s.t.1=[]/\s.v.1=[]/\s.w.1=[]/\s.y.1=[]/\s.z.1=[]/\s.s.1=gz/\(ite (s.1=fD) (s.r.1=[]) (s.u.1=[]/\cU s=[])):=by
 have⟨o,C,D,E,F,G,H,P,U,a,c,d,e⟩:=s;have n4:=sh.names.1;have n5:=sh.cols.1;have n7:=sh.uniques.1;have n8:=sh.refs.1;have A:=sh.row;have B:=sh.sets.1;simp only at n4 n5 n7 n8 A B;rcases ho with rfl|rfl|rfl
 .have⟨_,i⟩:=fw (s:=(dp,C,D,E,F,G,H,P,U,a,c,d,e)) (g:=_) (b:=_) rfl;rw[i]at h;have h:=KB h;have⟨_,_,p,q,_,j,l,m,n,k,_,x⟩:=(ki sw sg sg sg sg sg).1 h;exact⟨j,l,m,n,k,(zg.eta _).symm.trans x,by rw[zh (λh=>by simp at h)];exact⟨p,q⟩⟩
 .have⟨_,i⟩:=fw (s:=(fD,C,D,E,F,G,H,P,U,a,c,d,e)) (g:=_) (b:=_) rfl;rw[i]at h;have h:=KB h;have⟨_,_,p,q,k5,j,l,m,n,k,_,x⟩:=(ki sg sg sg sg sg sg).1 h;exact⟨j,l,m,n,k,(zg.eta _).symm.trans x,by rw[zf rfl];exact k5⟩
 .have⟨_,i⟩:=fw (s:=(na,C,D,E,F,G,H,P,U,a,c,d,e)) (g:=_) (b:=_) rfl;rw[i]at h;have h:=KB h;have⟨_,_,p,q,_,j,l,m,n,k,_,x⟩:=(ki sw sg sg sg sg sg).1 h;exact⟨j,l,m,n,k,(zg.eta _).symm.trans x,by rw[zh (λh=>by simp at h)];exact⟨p,q⟩⟩
theorem iS(h:¬LT.lt (α:=Int) (ab t a) 0):(T t.2.1 (W (ab t a)) (Q zp)).1=a/\LT.lt (α:=Int) (ab t a) (N t.2.1):=by
 have e:ab t a=al (λc:cK=>c.1==a) t.2.1 0:=rfl;rcases ei (λc:cK=>c.1==a) t.2.1 0 with⟨x,_⟩|⟨k,b,x,d,_⟩
 .rw[e,x]at h;exact zB (by decide:(-1:Int)<0) h
 .rw[e,x,eI];refine⟨?_,Int.ofNat_lt.2 b⟩;rw[dq _ _ b];exact bV d
def jN(p:zY)(s:zT):zS:=
 (p.1,p.r.1.1,p.2.1,if p.1=fD then[]else p.r.1.2.1.map λc:cK=>c.1,[],
  if p.1=fD then(if LE.le (α:=Int) 0 p.u/\LT.lt (α:=Int) p.u (N (s.getD 0 (Q zl)).1.2.1)then(T (s.getD 0 (Q zl)).1.2.1 (W p.u) (Q zp)).1 else[])else[],
  [],[],p.r.1.u,[],[],gz,p.q.1)
theorem se(h:gV t n=0):∀s∈n,¬LT.lt (α:=Int) (ab t s) 0:=by
 unfold gV at h;split at h
 .assumption
 .cases h
theorem BS{t:ap}:∀{l:List zN},(∀s∈l,¬LT.lt (α:=Int) (ab t s) 0)->(eX t l).map (λc:cK=>c.1)=l
 |[],_=>rfl
 | s::r,h=>by
  show(T t.2.1 (W (ab t s)) (Q zp)).1::(eX t r).map (λc:cK=>c.1)=s::r;rw[(iS (h s sw)).1,BS λx a=>h x (by simp[a])]
theorem jo(h:(jn k x).1=0):k=0/\jn k x=(0,x):=by
 unfold jn at h|-;split at h
 .rename_i a;split at h
  next b=>rw[zf a,zf b];exact⟨a,rfl⟩
  next b=>exact zB h b
 next a=>exact zB h a
theorem Xq(x:(cV l s).1=0)(v:lu s.1)(w:iu s=Z)(sh:nR s)(p:(e.getD 0 (Q zl)).1.2.1=(aA l s.q.1).2.1):jN (cV l s).2 e=s:=by
 have⟨y,z,A,B,C,D,n⟩:=zfF w sh v;have⟨o,s2,i,s4,s5,s6,s7,s8,s9,P,U,h0,k⟩:=s;simp only at y z A B C D n p;subst y z A B C D;rcases v with rfl|rfl|rfl
 .rw[zh (λh=>by simp at h)]at n;obtain⟨rfl,g⟩:=n;have g:k=[]:=g;subst g;unfold cV at x|-
  dsimp only at x|-
  rw[zf (show((dp:zN)==dp)=Z from rfl)]at x|-;have⟨c,j⟩:=jo x;rw[j];have d:=se (by
   unfold vI at c;split at c
   .assumption
   next m=>exact zB c m)
  unfold jN;simp only;rw[zh (λh=>by simp at h),zh (λh=>by simp at h),BS d]
 .rw[zf rfl]at n;subst n;unfold cV at x|-
  dsimp only at x|-
  rw[zh (show¬((fD:zN)==dp)=Z by decide),zf (show((fD:zN)==fD)=Z from rfl)]at x|-;have⟨c,j⟩:=jo x;rw[j];have d:¬LT.lt (α:=Int) (ab (aA l i) s6) 0:=by
   intro h;unfold gL at c;rw[zf h]at c;cases c
  have⟨G,H⟩:=iS d;unfold jN;simp only;rw[zf trivial,zf trivial,p,zf ⟨Int.not_lt.1 d,H⟩,G]
 .rw[zh (λh=>by simp at h)]at n;obtain⟨rfl,g⟩:=n;have g:k=[]:=g;subst g;have u:=kJ w rfl;simp only at u;unfold cV at x|-
  dsimp only at x|-
  rw[zh (show¬((na:zN)==dp)=Z by decide),zh (show¬((na:zN)==fD)=Z by decide),zf (show((na:zN)==na)=Z from rfl)]at x|-;have⟨c,j⟩:=jo x;rw[j];have d:=se (by
   unfold rS at c;split at c
   .assumption
   next m=>exact zB c m)
  match s4,u,d with
  |[a,b],_,d=>
  unfold jN;simp only;rw[zh (λh=>by simp at h),zh (λh=>by simp at h)];have E:=(iS (d a sw)).1;have F:=(iS (d b sw)).1;show(na,s2,i,[(T (aA l i).2.1 (W (ab (aA l i) a)) (Q zp)).1,(T (aA l i).2.1 (W (ab (aA l i) b)) (Q zp)).1],_)=_;rw[E,F]
def zD(db:zT)(p:zY):zT:=(bY p.2.1 p.q.1).map λn=>jS (aP (bY p.2.1 p.q.1)) (aU db n)
theorem JM:b∈gQ l↔b∈l:=by
 match l with
 |[]=>rfl
 |[_]=>rfl
 | [a,h]=>
  rw[ut];split
  .simp[or_comm]
  .exact Iff.rfl
 |_::_::_::_=>rfl
theorem JF(l:zT):(gQ l).length=N l:=by
 match l with
 |[]=>rfl
 |[_]=>rfl
 |[a,b]=>rw[ut];split<;>rfl
 |_::_::_::_=>rfl
theorem D7(x:(cV l s).1=0):(cV l s).2.1=s.1/\(cV l s).q.1=s.q.1/\(cV l s).r.1=cU s:=by
 unfold cV at x|-;split at x
 next h=>rw[zf h,(jo x).2];exact⟨rfl,rfl,rfl⟩
 .rename_i h;split at x
  next a=>rw[zh h,zf a,(jo x).2];exact⟨rfl,rfl,rfl⟩
  .rename_i a;split at x
   next b=>rw[zh h,zh a,zf b,(jo x).2];exact⟨rfl,rfl,rfl⟩
   .cases x
theorem JA(h:iu s=Z)(a:s.1=fD):cU s≠[]:=by have⟨o,j,k,u,v,l,w,y,z,d,e,i,x⟩:=s;have a:o=fD:=a;subst a;have⟨_,q⟩:=fw (s:=(fD,j,k,u,v,l,w,y,z,d,e,i,x)) (g:=_) (b:=_) rfl;rw[q]at h;intro c;have c:x=[]:=c;subst c;rw[show dH []=M from rfl]at h;cases m:dH j<;>cases n:dH k<;>cases p:dH l<;>simp[m,n,p]at h
theorem LA(a:(bu l s).1=0):lu s.1/\fx s=Z/\mi l=(0:Int)/\(∀n∈bY s.q.1 (cU s),LE.le (α:=Int) 0 (ao l n))/\s.q.1≠cU s/\bu l s=cV l s:=by
 unfold bu at a;split at a
 case isFalse=>cases a
 rename_i b;split at a
 case isFalse h=>exact zB a h
 rename_i x;refine⟨b.1,b.2.1,b.q,?_,?_,by unfold bu;rw[zf b,zf x]⟩
 .unfold rk at x;split at x
  .assumption
  .cases x
 .unfold rk at x;split at x
  case isFalse=>cases x
  split at x
  case isTrue=>cases x
  rename_i c;intro e;apply c;have e:s.q.1=s.p:=e;rw[<-e];simp
theorem Xp(z:∀x∈l,il x)(hp:(bu l s).1=0)(sh:nR s):
  bu (gQ (zD l (bu l s).2)) (jN (bu l s).2 (zD l (bu l s).2))=(0,(bu l s).2)/\(zD l (bu l s).2).map (λx:ag=>x.1.1)=bY (bu l s).q.1 (bu l s).r.1/\(gQ (zD l (bu l s).2)).Pairwise (λx y:ag=>Op.bytesLess x.1.1 y.1.1=Z)/\jN (bu l s).2 (zD l (bu l s).2)=s/\(∀x∈gQ (zD l (bu l s).2),il x)/\two (zD l (bu l s).2)=Z:=by
 have⟨hm,C,hb,B,D,o⟩:=LA hp;have hB:=(jQ z).1 hb;have i:=kR C;have E:(cV l s).1=0:=by rw[<-o];exact hp
 have⟨f1,f2,f3⟩:=D7 E;have F:bu l s=(0,(bu l s).2):=by rw[<-hp]
 rw[o]at F|-;generalize v:bY (cV l s).q.1 (cV l s).r.1=ns;have b:bY s.q.1 (cU s)=ns:=by rw[<-v,f2,f3]
 rw[b]at B;have P:zD l (cV l s).2=ns.map λn=>jS (aP ns) (aU l n):=by unfold zD;rw[v]
 rw[P];have a:∀n∈ns,(aU l n).1.1=n:=λn c=>(jz (B n c)).2
 have d:∀x∈gQ (ns.map λn=>jS (aP ns) (aU l n)),∃n∈ns,x=jS (aP ns) (aU l n):=λx hx=>by
  obtain⟨n,c,rfl⟩:=bt.1 (JM.1 hx);exact⟨n,c,rfl⟩
 have j:∀n∈ns,jS (aP ns) (aU l n)∈gQ (ns.map λn=>jS (aP ns) (aU l n)):=λn c=>JM.2 (bt.2 ⟨n,c,rfl⟩)
 have h5:N ns<=2:=by rw[<-v];unfold bY;split<;>simp
 have w:(gQ (ns.map λn=>jS (aP ns) (aU l n))).Pairwise λx y:ag=>Op.bytesLess x.1.1 y.1.1=Z:=by
  by_cases G:(cU s==[])=Z
  .have e:ns=[s.q.1]:=by rw[<-b];unfold bY;rw[zf G]
   rw[e];simp[gQ]
  .have e:ns=[s.q.1,cU s]:=by rw[<-b];unfold bY;rw[zh G]
   have n1:=a s.q.1 (by rw[e];simp);have n2:=a (cU s) (by rw[e];simp);rw[e];show(gQ [jS _ (aU l s.q.1),jS _ (aU l (cU s))]).Pairwise _;rw[ut];split
   next h=>simp only[List.pairwise_cons,fb,forall_eq,List.not_mem_nil,false_implies,implies_true,List.Pairwise.nil,and_true];exact h
   next h=>simp only[List.pairwise_cons,fb,forall_eq,List.not_mem_nil,false_implies,implies_true,List.Pairwise.nil,and_true];refine lc (by simpa using h) ?_;show(aU l (cU s)).1.1≠(aU l s.q.1).1.1;rw[n1,n2];exact λe=>D e.symm
 generalize A:gQ (ns.map λn=>jS (aP ns) (aU l n))=k at d j w;have g:∀n∈ns,LE.le (α:=Int) 0 (ao k n):=λn c=>by
  have:=TM (j n c)
  rwa [show(jS (aP ns) (aU l n)).1.1=n from a n c]at this
 have h3:jO k:=hB.src (p:=aP ns) (by rw[<-A,JF,cY];omega) w (λy hy=>by
  obtain⟨n,c,rfl⟩:=d y hy;exact⟨_,(jz (B n c)).1,rfl⟩) (λn c=>g n ((my _ _).1 c))
 have H:∀x∈k,il x:=λx hx=>by
  obtain⟨n,c,rfl⟩:=d x hx;have:=z _ (jz (B n c)).1;exact⟨this.uq,aV (List.length_filter_le _ _) this.rf,this.rw⟩
 have U:∀n∈ns,aA k n=Re (aP ns) (aA l n):=λn c=>by
  have⟨h1,h2⟩:=jz (g n c);have⟨m,hm,e⟩:=d _ h1;have:m=n:=by
   rw[e]at h2;rw[<-a m hm];exact h2
  subst this;show(aU k m).1=_;rw[e];rfl
 have u:jN (cV l s).2 (ns.map λn=>jS (aP ns) (aU l n))=s:=by
  refine Xq E hm i sh ?_;have:∃r,ns=s.q.1::r:=by rw[<-b];unfold bY;split<;>exact⟨_,rfl⟩
  have⟨r,e⟩:=this;rw[e];rfl
 have h0:two (ns.map λn=>jS (aP ns) (aU l n))=Z:=by
  by_cases G:(cU s==[])=Z
  .have e:ns=[s.q.1]:=by rw[<-b];unfold bY;rw[zf G]
   rw[e];rfl
  .have e:ns=[s.q.1,cU s]:=by rw[<-b];unfold bY;rw[zh G]
   have n1:=a s.q.1 (by rw[e];simp);have n2:=a (cU s) (by rw[e];simp);rw[e];show(!((aU l s.q.1).1.1:zN)==(aU l (cU s)).1.1)=Z;rw[n1,n2];simpa using D
 refine⟨?_,?_,w,u,H,h0⟩
 .rw[u];refine(zbl hp ((jQ H).2 h3) (λn c=>?_) (λx hx=>?_) (λho=>JA i ho)).1.trans (by rw[o];exact F)
  .rw[b]at c|-;refine⟨g n c,?_⟩;rw[U n c];refine⟨rfl,rfl,λf h4=>?_⟩;show f∈(aA l n).t.1.filter (λf:cC=>aP ns f.2)↔_;rw[List.mem_filter,(my _ _).2 h4];simp
  .rw[b];obtain⟨n,c,rfl⟩:=d x hx;have⟨h1,h2⟩:=jz (B n c);exact⟨by show(aU l n).1.1∈ns;rw[h2];exact c,_,h1,rfl⟩
 .rw[qL]
  conv=>rhs;rw[<-List.map_id ns]
  exact List.map_congr_left λn c=>a n c
def bI(p:zY)(s:zT):Int:=if p.1=dp then(T s 0 (Q zl)).1.q.1 else if p.1=fD then p.u else T p.t.1 0 (Q zk)
theorem Xy(c:0<N l)(d:x.1≠dp->x.1≠fD->0<N x.t.1):uv x l=Y (bI x l,()):=by
 have g:zK 0 (N l)=Z:=zu (i:=0) c;unfold bI;by_cases h:x.1=dp
 .rw[zf h];have e:(x.1==dp)=Z:=by simp[h]
  refine zQ (r:=(J (T l 0 (Q zl)).1.q.1,[])) ?_ rfl;simp only[WC,Q8,e,g,zi];rfl
 .rw[zh h];have e:(x.1==dp)=M:=by simpa using h
  by_cases a:x.1=fD
  .rw[zf a];have b:(x.1==fD)=Z:=by simp[a]
   refine zQ (r:=(J x.u,[])) ?_ rfl;simp only[WC,Q8,e,b,zi,zA,zm]
  .rw[zh a];have b:(x.1==fD)=M:=by simpa using a
   have j:zK 0 (N x.t.1)=Z:=zu (i:=0) (d h a);refine zQ (r:=(J (T x.t.1 0 (Q zk)),[])) ?_ rfl;simp only[WC,Q8,e,b,j,zi,zA,zm];rfl
def s59(p:zY)(n i:Int):List zN->Nl
 |[]=>.h7 p.r.1.2.1 n i [] [] [] [] [] 0 0 [] [] [] 0 0 [] [] [] p.1 p.r.1.1 p.2.1 [] (zg.op p.r.1.u) (zg.v p.r.1.u).1 (zg.v p.r.1.u).2.1 (zg.v p.r.1.u).q (zg.s p.r.1.u) (zg.l p.r.1.u) [] 0 0 [] [] p.q.1
 |a::r=>.h7b p.r.1.2.1 n i [] [] [] [] [] 0 0 [] [] [] 0 0 [] [] [] p.1 p.r.1.1 p.2.1 [] (zg.op p.r.1.u) (zg.v p.r.1.u).1 (zg.v p.r.1.u).2.1 (zg.v p.r.1.u).q (zg.s p.r.1.u) (zg.l p.r.1.u) [] 0 0 [] [] p.q.1 (a::r)
theorem zgh(h:List zN)(b:i<N x.r.1.2.1)(c:N h<=1000)(d:i<=1000):(CK (s59 x (N x.r.1.2.1:Int) (i:Int) h)).val=Y (.inl (s59 x (N x.r.1.2.1:Int) ((i+1:Nat):Int) (h++[(T x.r.1.2.1 i (Q zp)).1]))):=by
 cases h with
 | nil=>
  show(CK (.h7 _ _ _ _ _ _ _ _ _ _ _ _ _ _ _ _ _ _ _ _ _ _ _ _ _ _ _ _ _ _ _ _ _ _)).val=_;simp only[CK,Q8,zM b,zu b,zi,aI];rw[zf sw,zt i um];rfl
 | cons a r=>
  show(CK (.h7b _ _ _ _ _ _ _ _ _ _ _ _ _ _ _ _ _ _ _ _ _ _ _ _ _ _ _ _ _ _ _ _ _ _ _)).val=_;simp only[CK,Q8,zM b,zu b,zi,aI];rw[zf (by simp at c|-;omega),zt i um];rfl
theorem zbf{p:zY}(C:0<N l)(G:N p.r.1.2.1<=1000):Lw p l=Y (jN p l,()):=by
 have b:zK 0 (N l)=Z:=zu (i:=0) C;by_cases x:p.1=fD
 .have e:(p.1==fD)=Z:=by simp[x]
  unfold jN;rw[zf x,zf x];by_cases h:LE.le (α:=Int) 0 p.u/\LT.lt (α:=Int) p.u (N (T l 0 (Q zl)).1.2.1)
  .rw[zf h];have w:K (GE.ge (α:=Int) p.u 0)=Z:=zC h.1;have y:K (LT.lt (α:=Int) p.u (N (T l 0 (Q zl)).1.2.1))=Z:=zC h.2;have z:zK p.u (N (T l 0 (Q zl)).1.2.1)=Z:=by
    unfold zK;rw[aO];exact⟨zC h.1,zC (by have:=h.1;have:=h.2;omega)⟩
   have s:(zfp p l).val=Y (.inr (aS p.1 p.r.1.1 p.2.1 nils nils ((T (T l 0 (Q zl)).1.2.1 (W p.u) (Q zp)).1) nils nils (xE p.r.1.u) nils nils zE p.q.1,[])):=by
    show(br _ (chk _ (br _ (chk _ (chk _ (re _ _))) (re _ _))) (Tr.to _)).val=_;have j:K (p.u>=0)=Z:=w;simp only[Q8,e,j,b,aG,zi];have k:K (p.u<(↑(N (T l (W 0) (Q zl)).1.2.1):Int))=Z:=y;have m:zK p.u (N (T l (W 0) (Q zl)).1.2.1)=Z:=z;rw[zf k,zf m];rfl
   refine zQ s ?_;rw[<-zn p.r.1.u];rfl
  .rw[zh h];have s:(zfp p l).val=Q1 (.inr (aS p.1 p.r.1.1 p.2.1 nils nils [] nils nils (xE p.r.1.u) nils nils zE p.q.1,[])):=by
    have A:(cond (K (p.u>=0)) (K (p.u<(↑(N (T l (W 0) (Q zl)).1.2.1):Int))) M)=M:=by
     by_cases g:LE.le (α:=Int) 0 p.u
     .have v:¬LT.lt (α:=Int) p.u (N (T l 0 (Q zl)).1.2.1):=λc=>h ⟨g,c⟩
      rw[show K (p.u>=0)=Z from zC g,aG];exact aC v
     .rw[show K (p.u>=0)=M from aC g,aJ]
    have B:(cond (K (p.u>=0)) (zK 0 (N l)) Z)=Z:=by rw[b];cases K (p.u>=0)<;>rfl
    show(br _ (chk _ (br _ (chk _ (chk _ (re _ _))) (re _ _))) (Tr.to _)).val=_;simp only[Q8,e,zi];rw[zf B];simp only[A,zA,zm]
   refine zQ s ?_;rw[<-zn p.r.1.u];rfl
 .have e:(p.1==fD)=M:=by simpa using x
  have D:(zfp p l).val=Y (.inl (s59 p (N p.r.1.2.1:Int) ((0:Nat):Int) [])):=by
   show(br _ (chk _ (br _ (chk _ (chk _ (re _ _))) (re _ _))) (Tr.to _)).val=_;simp only[Q8,e,zA,zm];rfl
  have o:=zG.all (t:=CK) 1 (λi=>s59 p (N p.r.1.2.1:Int) (i:Int) ((p.r.1.2.1.take i).map λc:cK=>c.1)) (N p.r.1.2.1) λi b=>zG.of (by
   rw[zgh _ b sg S];congr 3;rw[aQ b,gm,bD,aj b];rfl)
  simp only[List.take_zero,oG,eF]at o;unfold jN;rw[zh x,zh x];generalize H:(p.r.1.2.1.map λc:cK=>c.1)=n at o;have d:∃r,zV CK 1 (s59 p (N p.r.1.2.1:Int) (N p.r.1.2.1:Int) n) r/\aX r.2 [aB] r.1=Y ((p.1,p.r.1.1,p.2.1,n,[],[],[],[],p.r.1.u,[],[],gz,p.q.1),()):=by
   cases n with
   | nil=>
    refine⟨_,zV.of (by
     show(CK (.h7 _ _ _ _ _ _ _ _ _ _ _ _ _ _ _ _ _ _ _ _ _ _ _ _ _ _ _ _ _ _ _ _ _ _)).val=_;simp only[CK,Q8,zJ,zA,zm];rfl),?_⟩
    rw[<-zn p.r.1.u];rfl
   | cons a r=>
    refine⟨_,zV.of (by
     show(CK (.h7b _ _ _ _ _ _ _ _ _ _ _ _ _ _ _ _ _ _ _ _ _ _ _ _ _ _ _ _ _ _ _ _ _ _ _)).val=_;simp only[CK,Q8,zJ,zA,zm];rfl),?_⟩
    rw[<-zn p.r.1.u];rfl
  have⟨r,E,F⟩:=d;exact zz D (o.ends E) S F
end
end Cad
