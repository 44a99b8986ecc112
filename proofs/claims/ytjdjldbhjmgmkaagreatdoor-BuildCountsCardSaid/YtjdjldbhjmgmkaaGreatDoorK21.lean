/- Statements. -/
import Derived.Test.YtjdjldbhjmgmkaaGreatDoorK20
namespace Cad
open Go Go.Proofs
open List renaming length→Io
open IntKind renaming wrap→Γ,i64→Δ
open Tr renaming val→Q8
open Bool renaming false→Q4,true→Q3
open Option renaming some→Q1
open Decidable renaming decide→Q0
open Int (toNat)
open List (getD)
open Tr (chk br re)
open AV (nils agg tup ptr kb str sl)
set_option maxHeartbeats 4000000
theorem tZ{α:Type}(p:α->Bool):∀(l:List α)(i:Nat),(!Q0 (ab p l i>=0))=Q3↔∀x∈l,p x=Q4
 | [],i=>by
  refine⟨λ_ x a=>(by cases a),λ_=>?_⟩;rw[ab];rfl
 | y::r,i=>by
  refine⟨λh=>qk p _ i h,λh=>?_⟩;rw[ab,h y sw];exact(tZ p r (i+1)).2 λx a=>h x (by simp[a])
theorem jx{x:zJ}(A:Io x.2.2.2.1<=1000)(B:Io x.2.2.2.2.1<=1000)(C:Io x.2.2.2.2.2.2.1<=1000)(D:Io x.2.2.2.2.2.2.2.1<=1000)(u:Io x.2.2.2.2.2.2.2.2.2.1<=1000)(v:Io x.2.2.2.2.2.2.2.2.2.2.1<=1000):
  eR x=Q3↔x.2.1=[]/\x.2.2.1=[]/\x.2.2.2.2.2.1=[]/\x.2.2.2.2.2.2.2.2.2.2.2.2=[]/\x.2.2.2.1=[]/\x.2.2.2.2.1=[]/\x.2.2.2.2.2.2.1=[]/\x.2.2.2.2.2.2.2.1=[]/\x.2.2.2.2.2.2.2.2.2.1=[]/\x.2.2.2.2.2.2.2.2.2.2.1=[]/\x.2.2.2.2.2.2.2.2.1=eu/\x.2.2.2.2.2.2.2.2.2.2.2.1=eu:=by
 unfold eR
 have w:(Γ Δ (Γ Δ (Γ Δ (Γ Δ (Γ Δ ((↑(Io x.2.2.2.1):Int)+(↑(Io x.2.2.2.2.1):Int))+(↑(Io x.2.2.2.2.2.2.1):Int))+(↑(Io x.2.2.2.2.2.2.2.1):Int))+(↑(Io x.2.2.2.2.2.2.2.2.2.1):Int))+(↑(Io x.2.2.2.2.2.2.2.2.2.2.1):Int)))=
   ((Io x.2.2.2.1+Io x.2.2.2.2.1+Io x.2.2.2.2.2.2.1+Io x.2.2.2.2.2.2.2.1+Io x.2.2.2.2.2.2.2.2.2.1+Io x.2.2.2.2.2.2.2.2.2.2.1:Nat):Int):=by
  have g:∀n:Nat,n<=10000->Γ Δ (n:Int)=(n:Int):=λn E=>zaj n (by omega)
  rw[<-sK,g _ (by omega),<-sK,g _ (by omega),<-sK,g _ (by omega),<-sK,g _ (by omega),<-sK,g _ (by omega)]
 rw[w];constructor
 .intro h;obtain⟨k,h⟩:=cJ h;obtain⟨l,h⟩:=cJ h;obtain⟨y,z⟩:=cJ h;simp only[bd,List.append_eq_nil_iff]at k;obtain⟨⟨⟨a,e⟩,i⟩,j⟩:=k;have l:Io x.2.2.2.1+Io x.2.2.2.2.1+Io x.2.2.2.2.2.2.1+Io x.2.2.2.2.2.2.2.1+Io x.2.2.2.2.2.2.2.2.2.1+Io x.2.2.2.2.2.2.2.2.2.2.1=0:=by
   have:=bF l;exact Int.ofNat.inj this
  refine⟨a,e,i,j,?_,?_,?_,?_,?_,?_,kP.1 y,kP.1 z⟩<;>exact AF (by omega)
 .rintro⟨a,e,i,j,m,o,p,q,s,b,c,d⟩;rw[a,e,i,j,m,o,p,q,s,b,c,d,show ij eu=Q3 from rfl];rfl
theorem ZY(s:zJ):eF s=(fC s&&((cut (iS s)).2==0)):=by
 unfold eF qI;cases fC s
 .rfl
 .show((ite (((cut (iS s)).2!=0)=Q3) (([],1):Sem Sh.str×zq) (iS s,0)).2==0)=_;cases h:((cut (iS s)).2==0)
  .have:((cut (iS s)).2!=0)=Q3:=by simp only[bne,h];rfl
   rw[ze this];rfl
  .have:((cut (iS s)).2!=0)=Q4:=by simp only[bne,h];rfl
   rw[this];rfl
theorem Yz(s:zH):cu s=zU s:=rfl
variable {s:zJ}
theorem HG(h:wK s){t:zH}{o:zJ}{x:Bool}(d:eQ s=Q1 (t,o,x,()))(B:Io t<=900000)(n:BM o):
  ∃t',o6 s=Q1 (t',(x&&(zU s.2.1&&(fA o s&&((cut t).2==(0:Int))))),()):=by
 have C:=h.sh.table;have j:wa s=Q3:=by unfold wa;rw[d];rfl
 have k:Bw s=(t,o,x):=by unfold Bw;rw[d];rfl
 obtain⟨y,_⟩:=sa (b:=s) n;have v:=cr (s:=s.2.1) ow;have w:=fk (s:=s.2.1) ow;have p:=Zw (s:=t) ow;have u:=zdC (s:=t) ow;have l:wa (s.1,s.2.1,s.2.2.1,s.2.2.2.1,s.t.1,s.t.2.1,s.t.q.1,s.t.q.2.1,s.t.t.1,s.t.t.2.1,s.t.t.q.1,s.t.t.q.2.1,s.t.t.t)=Q3:=j;have m:Bw (s.1,s.2.1,s.2.2.1,s.2.2.2.1,s.t.1,s.t.2.1,s.t.q.1,s.t.q.2.1,s.t.t.1,s.t.t.2.1,s.t.t.q.1,s.t.t.q.2.1,s.t.t.t)=(t,o,x):=k;have z:Bu (o.1,o.2.1,o.2.2.1,o.2.2.2.1,o.t.1,o.t.2.1,o.t.q.1,o.t.q.2.1,o.t.t.1,o.t.t.2.1,o.t.t.q.1,o.t.t.q.2.1,o.t.t.t) (s.1,s.2.1,s.2.2.1,s.2.2.2.1,s.t.1,s.t.2.1,s.t.q.1,s.t.q.2.1,s.t.t.1,s.t.t.2.1,s.t.t.q.1,s.t.t.q.2.1,s.t.t.t)=Q3:=y;have A:fA (o.1,o.2.1,o.2.2.1,o.2.2.2.1,o.t.1,o.t.2.1,o.t.q.1,o.t.q.2.1,o.t.t.1,o.t.t.2.1,o.t.t.q.1,o.t.t.q.2.1,o.t.t.t) (s.1,s.2.1,s.2.2.1,s.2.2.2.1,s.t.1,s.t.2.1,s.t.q.1,s.t.q.2.1,s.t.t.1,s.t.t.2.1,s.t.t.q.1,s.t.t.q.2.1,s.t.t.t)=fA o s:=rfl;have c:∃t' b,(zkq s).val=Q1 (.inr (.tup [.str t',b],[]))/\(b=.kb Q3/\(x&&(zU s.2.1&&(fA o s&&((cut t).2==(0:Int)))))=Q3\/(b=.kb Q4/\(x&&(zU s.2.1&&(fA o s&&((cut t).2==(0:Int)))))=Q4)):=by
  simp only[zkq,Q8,zm,l,m,z,A,v,w,p,u,zh];generalize fA o s=e;generalize zU s.2.1=g;generalize((cut t).2==(0:Int))=i;cases x<;>cases g<;>cases e<;>cases i<;>first|exact⟨_,_,rfl,.inl ⟨rfl,rfl⟩⟩|exact⟨_,_,rfl,.inr ⟨rfl,rfl⟩⟩
 obtain⟨t',b,c,a⟩:=c;refine⟨t',zO c ?_⟩;rcases a with⟨rfl,a⟩|⟨rfl,a⟩<;>rw[a]<;>rfl
theorem PL(h:wK s):∃t b,o6 s=Q1 (t,b,()):=by obtain⟨t,o,e,x,a,c⟩:=PO h;obtain⟨t',d⟩:=HG h x a c;exact⟨t',_,d⟩
theorem Sb(h:wK s)(o:s.1=[99,111,112,121]):fC s=(lD s&&(zU s.2.1&&fA (s.1,s.2.1,s.2.2.1,s.2.2.2.1,[],[],[],[],s.2.2.2.2.2.2.2.2.1,[],[],eu,[]) s)):=by
 have Y:=h.sh.names.1;have A:=h.sh.cols.1;have C:=h.sh.uniques.1;have D:=h.sh.refs.1;have F:=h.sh.row;have E:=h.sh.sets.1;obtain⟨G,H,I,J,L,M,N,O,P,S,p⟩:=zdr o;obtain⟨_,B⟩:=eS (s:=s) (g:=_) (b:=_) (by simp only[vn,Q8,G,H,I,J,L,M,N,O,P,S,p,zh,zp,zE,zm];exact rfl);obtain⟨_,c⟩:=sa (a:=(s.1,s.2.1,s.2.2.1,s.2.2.2.1,[],[],[],[],s.2.2.2.2.2.2.2.2.1,[],[],eu,[])) (b:=s) (fP h (.inl rfl) (.inr rfl) (.inr rfl) (.inr rfl) (.inl rfl) (.inr rfl) (.inr rfl) (.inr rfl));have i:=jx (x:=(s.1,[],[],[],s.2.2.2.2.1,s.2.2.2.2.2.1,s.2.2.2.2.2.2.1,s.2.2.2.2.2.2.2.1,eu,s.2.2.2.2.2.2.2.2.2.1,s.2.2.2.2.2.2.2.2.2.2.1,s.2.2.2.2.2.2.2.2.2.2.2.1,s.2.2.2.2.2.2.2.2.2.2.2.2)) (by simp) (by simpa using aX A (by omega)) (by simpa using aX C (by omega)) (by simpa using aX D (by omega)) (by simpa using aX F (by omega)) (by simpa using aX E (by omega));have e:eG (s.1,[],[],[],s.2.2.2.2.1,s.2.2.2.2.2.1,s.2.2.2.2.2.2.1,s.2.2.2.2.2.2.2.1,eu,s.2.2.2.2.2.2.2.2.2.1,s.2.2.2.2.2.2.2.2.2.2.1,s.2.2.2.2.2.2.2.2.2.2.2.1,s.2.2.2.2.2.2.2.2.2.2.2.2)=Q3:=gy (by simp) (by simp) (by have:=h.sh.key;simpa using this) (by have:=h.sh.role;simpa using this);rw[B];apply gU.2;have d:fA (s.1,s.2.1,s.2.2.1,s.2.2.2.1,[],[],[],[],s.2.2.2.2.2.2.2.2.1,[],[],eu,[]) s=Q3↔eR (s.1,[],[],[],s.2.2.2.2.1,s.2.2.2.2.2.1,s.2.2.2.2.2.2.1,s.2.2.2.2.2.2.2.1,eu,s.2.2.2.2.2.2.2.2.2.1,s.2.2.2.2.2.2.2.2.2.2.1,s.2.2.2.2.2.2.2.2.2.2.2.1,s.2.2.2.2.2.2.2.2.2.2.2.2)=Q3:=by
  rw[c,i];obtain⟨Z,s2,s3,s4,s5,s6,s7,s8,s9,T,U,W,X⟩:=s;simp only[b5,true_and];constructor
  .intro k;simp_all
  .intro k;simp_all
 have j:=tZ (λx=>!cu x) s.2.2.2.1 0;have m:(!Q0 (ab (λx=>!cu x) s.2.2.2.1 0>=0))=Q0 (∀x∈s.2.2.2.1,zU x=Q3):=by
  apply gU.2;rw[j,decide_eq_true_iff];exact⟨λk x n=>by have:=k x n;simpa[Yz]using this,λk x n=>by have:=k x n;simpa[Yz]using this⟩
 have l:(cond (Q0 ((↑(Io s.2.2.2.1):Int)<1)) Q3 (Q0 ((↑(Io s.2.2.2.1):Int)>8)))=!(Q0 (1<=Io s.2.2.2.1)&&Q0 (Io s.2.2.2.1<=8)):=by
  by_cases a:1<=Io s.2.2.2.1
  .rw[ae (show¬(↑(Io s.2.2.2.1):Int)<1 by omega),zy a];by_cases b:Io s.2.2.2.1<=8
   .rw[ae (show¬(↑(Io s.2.2.2.1):Int)>8 by omega),zy b];rfl
   .rw[zy (show(↑(Io s.2.2.2.1):Int)>8 by omega),ae b];rfl
  .rw[zy (show(↑(Io s.2.2.2.1):Int)<1 by omega),ae a];rfl
 rw[m,l,e];unfold lD;rw[show cu s.2.1=zU s.2.1 from rfl,show cu s.2.2.1=zU s.2.2.1 from rfl];rw[gU.2 d];generalize eR _=q;generalize cg s.2.2.2.2.2.2.2.2.1=u;generalize zU s.2.1=v;generalize zU s.2.2.1=w;generalize Q0 (∀x∈s.2.2.2.1,zU x=Q3)=y;generalize(Q0 (1<=Io s.2.2.2.1)&&Q0 (Io s.2.2.2.1<=8))=z;cases q<;>cases u<;>cases v<;>cases w<;>cases y<;>cases z<;>simp
theorem Sc(h:wK s)(o:s.1=gj):fC s=(oL s&&(zU s.2.1&&fA (s.1,s.2.1,s.2.2.1,[],[],s.t.2.1,[],[],s.t.t.1,[],[],eu,s.t.t.t) s)):=by
 have z:=h.sh.names.1;have y:=h.sh.cols.1;have B:=h.sh.uniques.1;have C:=h.sh.refs.1;have E:=h.sh.row;have D:=h.sh.sets.1;obtain⟨F,G,H,I,J,L,M,N,O,P,p,j⟩:=zds o;obtain⟨_,A⟩:=eS (s:=s) (g:=_) (b:=_) (by simp only[vn,Q8,F,G,H,I,J,L,M,N,O,P,p,j,zh,zp,zE,zm];exact rfl);obtain⟨_,c⟩:=sa (a:=(s.1,s.2.1,s.2.2.1,[],[],s.t.2.1,[],[],s.t.t.1,[],[],eu,s.t.t.t)) (b:=s) (fP h (.inr rfl) (.inr rfl) (.inr rfl) (.inr rfl) (.inl rfl) (.inr rfl) (.inr rfl) (.inr rfl));have i:=jx (x:=(s.1,[],[],s.2.2.2.1,s.t.1,[],s.t.q.1,s.t.q.2.1,eu,s.t.t.2.1,s.t.t.q.1,s.t.t.q.2.1,[])) (by simpa using aX z ow) (by simpa using aX y ow) (by simpa using aX B ow) (by simpa using aX C ow) (by simpa using aX E ow) (by simpa using aX D ow);have e:eG (s.1,[],[],s.2.2.2.1,s.t.1,[],s.t.q.1,s.t.q.2.1,eu,s.t.t.2.1,s.t.t.q.1,s.t.t.q.2.1,[])=Q3:=gy sw sw sw sw;rw[A];apply gU.2;have d:fA (s.1,s.2.1,s.2.2.1,[],[],s.t.2.1,[],[],s.t.t.1,[],[],eu,s.t.t.t) s=Q3↔eR (s.1,[],[],s.2.2.2.1,s.t.1,[],s.t.q.1,s.t.q.2.1,eu,s.t.t.2.1,s.t.t.q.1,s.t.t.q.2.1,[])=Q3:=by
  rw[c,i];obtain⟨X,Y,Z,s4,s5,s6,s7,s8,s9,S,T,U,W⟩:=s;simp only[b5,true_and];constructor
  .intro k;simp_all
  .intro k;simp_all
 rw[e];unfold oL;rw[show cu s.2.1=zU s.2.1 from rfl,show cu s.2.2.1=zU s.2.2.1 from rfl,show cu s.t.2.1=zU s.t.2.1 from rfl,show cu s.t.t.t=zU s.t.t.t from rfl];rw[gU.2 d];generalize eR _=l;generalize cg s.t.t.1=m;generalize zU s.2.1=n;generalize zU s.2.2.1=u;generalize zU s.t.2.1=v;generalize zU s.t.t.t=w;cases l<;>cases m<;>cases n<;>cases u<;>cases v<;>cases w<;>simp
theorem MP(h:wK s)(o:s.1=[103,114,111,117,112]):fC s=(g7 s&&(zU s.2.1&&fA (s.1,s.2.1,s.2.2.1,s.2.2.2.1,[],[],[],[],s.2.2.2.2.2.2.2.2.1,[],[],eu,[]) s)):=by
 have hn:=h.sh.names.1;have E:=h.sh.cols.1;have G:=h.sh.uniques.1;have H:=h.sh.refs.1;have J:=h.sh.row;have I:=h.sh.sets.1;obtain⟨L,M,N,O,P,S,T,U,W,X,p,n,q⟩:=Y0 o;obtain⟨_,F⟩:=eS (s:=s) (g:=_) (b:=_) (by simp only[vn,Q8,L,M,N,O,P,S,T,U,W,X,p,n,q,zh,zp,zE,zm];exact rfl);obtain⟨_,c⟩:=sa (a:=(s.1,s.2.1,s.2.2.1,s.2.2.2.1,[],[],[],[],s.2.2.2.2.2.2.2.2.1,[],[],eu,[])) (b:=s) (fP h (.inl rfl) (.inr rfl) (.inr rfl) (.inr rfl) (.inl rfl) (.inr rfl) (.inr rfl) (.inr rfl));have i:=jx (x:=(s.1,[],[],[],s.2.2.2.2.1,s.2.2.2.2.2.1,s.2.2.2.2.2.2.1,s.2.2.2.2.2.2.2.1,eu,s.2.2.2.2.2.2.2.2.2.1,s.2.2.2.2.2.2.2.2.2.2.1,s.2.2.2.2.2.2.2.2.2.2.2.1,s.2.2.2.2.2.2.2.2.2.2.2.2)) (by simp) (by simpa using aX E (by omega)) (by simpa using aX G (by omega)) (by simpa using aX H (by omega)) (by simpa using aX J (by omega)) (by simpa using aX I (by omega));have e:eG (s.1,[],[],[],s.2.2.2.2.1,s.2.2.2.2.2.1,s.2.2.2.2.2.2.1,s.2.2.2.2.2.2.2.1,eu,s.2.2.2.2.2.2.2.2.2.1,s.2.2.2.2.2.2.2.2.2.2.1,s.2.2.2.2.2.2.2.2.2.2.2.1,s.2.2.2.2.2.2.2.2.2.2.2.2)=Q3:=gy (by simp) (by simp) (by have:=h.sh.key;simpa using this) (by have:=h.sh.role;simpa using this);rw[F];apply gU.2;have d:fA (s.1,s.2.1,s.2.2.1,s.2.2.2.1,[],[],[],[],s.2.2.2.2.2.2.2.2.1,[],[],eu,[]) s=Q3↔eR (s.1,[],[],[],s.2.2.2.2.1,s.2.2.2.2.2.1,s.2.2.2.2.2.2.1,s.2.2.2.2.2.2.2.1,eu,s.2.2.2.2.2.2.2.2.2.1,s.2.2.2.2.2.2.2.2.2.2.1,s.2.2.2.2.2.2.2.2.2.2.2.1,s.2.2.2.2.2.2.2.2.2.2.2.2)=Q3:=by
  rw[c,i];obtain⟨Y,s2,s3,u,s5,s6,s7,s8,s9,Z,h0,h1,h2⟩:=s;simp only[b5,true_and];constructor
  .intro k;simp_all
  .intro k;simp_all
 have j:=tZ (λx=>!cu x) s.2.2.2.1 0;have l:(cond (cond (Q0 ((↑(Io s.2.2.2.1):Int)<2)) Q3 (Q0 ((↑(Io s.2.2.2.1):Int)>2))) Q4 (cond (!Q0 (ab (λx=>!cu x) s.2.2.2.1 0>=0)) (cg s.2.2.2.2.2.2.2.2.1) Q4))=(Q0 (Io s.2.2.2.1=2)&&(cg s.2.2.2.2.2.2.2.2.1&&(zU (s.2.2.2.1.getD 0 [])&&zU (s.2.2.2.1.getD 1 [])))):=by
  by_cases a:Io s.2.2.2.1=2
  .rw[ae (show¬(↑(Io s.2.2.2.1):Int)<2 by omega),ae (show¬(↑(Io s.2.2.2.1):Int)>2 by omega),zy a];have m:(!Q0 (ab (λx=>!cu x) s.2.2.2.1 0>=0))=(zU (s.2.2.2.1.getD 0 [])&&zU (s.2.2.2.1.getD 1 [])):=by
    apply gU.2;rw[j,aF];obtain⟨Y,s2,s3,u,s5⟩:=s
    match u,a with
    |[x,y],_=>simp[Yz]
   rw[m];cases cg s.2.2.2.2.2.2.2.2.1<;>cases zU (s.2.2.2.1.getD 0 [])<;>cases zU (s.2.2.2.1.getD 1 [])<;>rfl
  .rw[ae a];by_cases b:(↑(Io s.2.2.2.1):Int)<2
   .rw[zy b];rfl
   .rw[ae b,zy (show(↑(Io s.2.2.2.1):Int)>2 by omega)];rfl
 rw[l,e];unfold g7;rw[show cu s.2.1=zU s.2.1 from rfl,show cu s.2.2.1=zU s.2.2.1 from rfl];rw[gU.2 d];generalize eR _=v;generalize cg s.2.2.2.2.2.2.2.2.1=w;generalize zU s.2.1=z;generalize zU s.2.2.1=A;generalize zU (s.2.2.2.1.getD 0 [])=B;generalize zU (s.2.2.2.1.getD 1 [])=C;generalize Q0 (Io s.2.2.2.1=2)=D;cases v<;>cases w<;>cases z<;>cases A<;>cases B<;>cases C<;>cases D<;>simp
theorem tb(p:ap):mv p=Q1 (bK p.2.1 p.2.2.1,()):=by
 unfold bK;by_cases h:(p.2.2.1==[])=Q3
 .rw[ze h];refine zO (r:=(.vec 0,[.vec Sh.str [p.2.1]])) ?_ rfl;simp only[zkk,Q8,h];rfl
 .rw[zg h];have h:(p.2.2.1==[])=Q4:=by simpa using h
  refine zO (r:=(.vec 0,[.vec Sh.str ([p.2.1]++[p.2.2.1])])) ?_ rfl;simp only[zkk,Q8,h];rfl
theorem ta(p:ap):jU p=Q3:=by unfold jU;rw[tb];rfl
theorem vF(p:ap):lG p=bK p.2.1 p.2.2.1:=by unfold lG;rw[tb];rfl
theorem Am(x:zH):∀(l:List zH)(i:Nat),GE.ge (α:=Int) (iH x l (i:Int)) 0↔x∈l
 | [],i=>by
  rw[iH];exact⟨λh=>zC h (by decide),λh=>by cases h⟩
 | a::r,i=>by
  rw[iH];split
  .rename_i h;have:x=a:=by simpa using h
   subst this;exact⟨λ_=>pP,λ_=>Int.natCast_nonneg i⟩
  next h=>have:=Am x r (i+1);rw[sK]at this;rw[cf];refine⟨λb=>.inr (this.1 b),λb=>this.2 (b.resolve_left ?_)⟩;rintro rfl;simp at h
theorem lA(l:List zH)(x:zH):aH l x=Q3↔x∈l:=by unfold aH;rw[decide_eq_true_iff];exact Am x l 0
variable {l:List zH}
theorem JJ{s:zH}(o:Io l<=1000000):Au l s=Q3/\Ng l s=aH l s:=by
 have a:Sp l s=Q1 (aH l s,()):=by
  rcases mD (t:=Qj) (Φ:=λr=>r=(.kb Q3,[])) 1 (λi=>.h2 l s (i:Int)) (λi=>∀h:i<Io l,l[i]≠s) (Io l) (λi x _=>by
   have n:(Qj (.h2 l s (i:Int))).val=if(l[i]==s)=Q3 then Q1 (.inr (.kb Q3,[]))else Q1 (.inl (.h2 l s ((i+1:Nat):Int))):=by
    show(Qj (.h2 _ _ _)).val=_;simp only[Qj,Q8,z7 _ _ x,zL x,zz x,zh];rw[zt i um]
   by_cases h:l[i]=s
   .exact .inr ⟨λk=>k x h,_,z6.of (by rw[n,ze (by simpa using h)]),rfl⟩
   .exact .inl ⟨λ_=>h,zN.of (by rw[n,zg (by simpa using h)])⟩)with⟨b,c⟩|⟨b,r,c,rfl⟩
  .have g:aH l s=Q4:=by
    rw[<-gT,lA];intro d;obtain⟨j,m,e⟩:=gD d;exact b j m m e
   rw[g];refine zB (s:=.h2 l s 0) rfl (c.ends (z6.of (r:=(.kb Q4,[])) ?_)) ow rfl;show(Qj (.h2 _ _ _)).val=_;simp only[Qj,Q8,zG];rfl
  .have g:aH l s=Q3:=by
    rw[lA];apply tq;intro d;exact b λi _ x e=>d (e▸bp x)
   rw[g];exact zB (s:=.h2 l s 0) rfl c ow rfl
 exact⟨by unfold Au;rw[a];rfl,by unfold Ng;rw[a];rfl⟩
theorem Ak{α:Type}(p:α->Bool):∀(l:List α)(i:Nat),(!Q0 (ab p l i>=0))=Q3↔∀x∈l,p x=Q4
 | [],i=>by
  refine⟨λ_ x a=>(by cases a),λ_=>?_⟩;rw[ab];rfl
 | y::r,i=>by
  refine⟨λh=>qk p _ i h,λh=>?_⟩;rw[ab,h y sw];exact(Ak p r (i+1)).2 λx a=>h x (by simp[a])
theorem xI{α:Type}(p:α->Bool)(l:List α):Q0 (GE.ge (α:=Int) (ab p l 0) 0)=Q3↔∃x∈l,p x=Q3:=by
 have h:=Ak p l 0;constructor
 .intro a;apply tq;intro d;have:=h.2 λx c=>by
   cases b:p x
   .rfl
   .exact zC ⟨x,c,b⟩ d
  rw[a]at this;cases this
 .rintro⟨x,c,b⟩;cases a:Q0 (GE.ge (α:=Int) (ab p l 0) 0)
  .have:=h.1 (by rw[a];rfl) x c;rw[b]at this;cases this
  .rfl
variable {d:zP}{ns:List zH}
theorem Jf(H:Io d<=1000)(G:∀x∈d,(x:ah).1.t.1.length<=1000)(u:Io ns<=1000000):oO d ns=Q1 (ei d ns,()):=by
 have p:∀i(e:i<Io d),(¬(!aH ns d[i].1.1&&Q0 (GE.ge (α:=Int) (ab (λf:bV=>aH ns f.2) d[i].1.t.1 0) 0))=Q3/\zN qM 1002 (.h2 d ns (i:Int)) (.h2 d ns ((i+1:Nat):Int)))\/
   ((!aH ns d[i].1.1&&Q0 (GE.ge (α:=Int) (ab (λf:bV=>aH ns f.2) d[i].1.t.1 0) 0))=Q3/\z6 qM 1002 (.h2 d ns (i:Int)) (.kb Q3,[])):=by
  intro i e;have v:=G _ (bp e);have g:d.getD (i:Int).toNat (zi zk)=d[i]:=z7 _ _ e;have q:zN qM 1 (.h2 d ns (i:Int)) (.h5 d ns (i:Int) ((0:Nat):Int)):=zN.of (by
   show(qM (.h2 _ _ _)).val=_;simp only[qM,Q8,zL e,zh];rfl)
  obtain⟨z,A⟩:=JJ (l:=ns) (s:=d[i].1.1) u;have E:(qM (.h5 d ns (i:Int) (d[i].1.t.1.length:Int))).val=Q1 (.inl (.h2 d ns ((i+1:Nat):Int))):=by
   show(qM (.h5 _ _ _ _)).val=_;simp only[qM,Q8,g,zG,zz e,zh];rw[zt i um];rfl
  rcases mD (t:=qM) (Φ:=λr=>r=(.kb Q3,[])) 1 (λj=>.h5 d ns (i:Int) (j:Int)) (λj=>∀h:j<d[i].1.t.1.length,¬(!aH ns d[i].1.1&&aH ns (d[i].1.t.1[j]).2)=Q3) d[i].1.t.1.length (λj a _=>by
   have D:getD d[i].1.t.1 (j:Int).toNat (zi zA)=d[i].1.t.1[j]:=z7 _ _ a;obtain⟨B,C⟩:=JJ (l:=ns) (s:=(d[i].1.t.1[j]).2) u;have m:(qM (.h5 d ns (i:Int) (j:Int))).val=if(!aH ns d[i].1.1&&aH ns (d[i].1.t.1[j]).2)=Q3 then Q1 (.inr (.kb Q3,[]))else Q1 (.inl (.h5 d ns (i:Int) ((j+1:Nat):Int))):=by
    show(qM (.h5 _ _ _ _)).val=_;simp only[qM,Q8,g,D,zL a,zz e,zz a,z,A,B,C,zh,eB];rw[zt j um];cases aH ns d[i].1.1<;>cases aH ns (d[i].1.t.1[j]).2<;>rfl
   by_cases h:(!aH ns d[i].1.1&&aH ns (d[i].1.t.1[j]).2)=Q3
   .exact .inr ⟨λk=>k a h,_,z6.of (by rw[m,ze h]),rfl⟩
   .exact .inl ⟨λ_=>h,zN.of (by rw[m,zg h])⟩)with⟨b,c⟩|⟨b,r,c,rfl⟩
  .refine .inl ⟨?_,((q.trans c).trans (zN.of E)).mono ow⟩;intro h;simp only[aF,xI]at h;obtain⟨w,f,F,y⟩:=h;obtain⟨j,a,rfl⟩:=gD F;exact b j a a (by rw[w,y];rfl)
  .refine .inr ⟨?_,(q.ends c).mono ow⟩;apply tq;intro h;refine b λj _ a o=>h ?_
   simp only[aF]at o;simp only[aF,xI];exact⟨o.1,_,bp a,o.2⟩
 rcases mD (t:=qM) (Φ:=λr=>r=(.kb Q3,[])) 1002 (λi=>.h2 d ns (i:Int)) (λi=>∀h:i<Io d,¬(!aH ns d[i].1.1&&Q0 (GE.ge (α:=Int) (ab (λf:bV=>aH ns f.2) d[i].1.t.1 0) 0))=Q3) (Io d) (λi e _=>by
  rcases p i e with⟨b,c⟩|⟨b,c⟩
  .exact .inl ⟨λ_=>b,c⟩
  .exact .inr ⟨λk=>k e b,_,c,rfl⟩)with⟨b,c⟩|⟨b,r,c,rfl⟩
 .have n:ei d ns=Q4:=by
   unfold ei;rw[List.any_eq_false];intro x v;obtain⟨j,a,rfl⟩:=gD v;exact b j a a
  rw[n];have m:(qM (.h2 d ns (Io d:Int))).val=Q1 (.inr (.kb Q4,[])):=by
   show(qM (.h2 _ _ _)).val=_;simp only[qM,Q8,zG];rfl
  exact zB (s:=.h2 d ns 0) rfl (c.ends (z6.of m)) ow rfl
 .have n:ei d ns=Q3:=by
   unfold ei;apply tq;intro h;rw[gT,List.any_eq_false]at h;exact b λi _ e=>h _ (bp e)
  rw[n];exact zB (s:=.h2 d ns 0) rfl c ow rfl
theorem MS{db:zP}(a:Io db<=1000)(c:∀x∈db,(x:ah).1.t.1.length<=1000)(b:Io ns<=1000000):ue db ns=Q3/\xW db ns=ei db ns:=by have h:=Jf a c b;exact⟨by unfold ue;rw[h];rfl,by unfold xW;rw[h];rfl⟩
def pl3(t:aq)(n:List zH):Nat->pJ
 |0=>.h3 t.2.1 n ((0:Nat):Int)
 |i+1=>.h3b t.2.1 n ((i+1:Nat):Int) (jr t (n.take (i+1)))
variable {t:aq}
theorem zdx(c:Io t.2.1<=1000000)(d:Io l<=1000){i:Nat}(x:i<Io l):(jY (pl3 t l i)).val=if LT.lt (α:=Int) (zV t l[i]) 0 then Q1 (.inr (.tup [.nils,.int .i64 4],[]))else Q1 (.inl (pl3 t l (i+1))):=by
 have e:gw t.2.1 l[i]=zV t l[i]:=r7 c;have b:eP t.2.1 l[i]=Q3:=oW c;have a:jr t (l.take (i+1))=jr t (l.take i)++[zV t l[i]]:=by
  unfold jr;rw[bx x,eI];rfl
 cases i with
 | zero=>
  have a:jr t (l.take 1)=[zV t l[0]]:=a;show(jY (.h3 _ _ _)).val=_;simp only[jY,Q8,zL x,zz x,zh,z7 _ _ x,e,b];by_cases h:LT.lt (α:=Int) (zV t l[0]) 0
  .simp only[zy h,zh,ze h]
  .simp only[ae h,zg h,zE,zp];rw[ze sw,zt 0 um];show _=Q1 (Sum.inl (pJ.h3b _ _ _ (jr t (l.take 1))));rw[a]
 | succ i=>
  show(jY (.h3b _ _ _ _)).val=_;simp only[jY,Q8,zL x,zz x,zh,z7 _ _ x,e,b];by_cases h:LT.lt (α:=Int) (zV t l[i+1]) 0
  .simp only[zy h,zh,ze h]
  .simp only[ae h,zg h,zE,zp];rw[ze (by unfold jr;simp;omega),zt (i+1) um];show _=Q1 (Sum.inl (pJ.h3b _ _ _ (jr t (l.take (i+1+1)))));rw[a]
theorem zv3{l:List Int}(u:Io l<=1000):z6 jY (Io l*1001+1) (.h10b ((0:Nat):Int) l) (ite l.Nodup (.tup [.vec 0,.int .i64 0],[.vec zj l]) (.tup [.nils,.int .i64 7],[])):=by
 have m:∀i(c:i<Io l),((∀k(x:k<i),l[k]≠l[i])/\zN jY 1001 (.h10b (i:Int) l) (.h10b ((i+1:Nat):Int) l))\/((¬∀k(x:k<i),l[k]≠l[i])/\z6 jY 1001 (.h10b (i:Int) l) (.tup [.nils,.int .i64 7],[])):=by
  intro i c;have n:zN jY 1 (.h10b (i:Int) l) (.h13b (i:Int) ((0:Nat):Int) l):=zN.of (by
   show(jY (.h10b _ _)).val=_;simp only[jY,Q8,zL c,zh];rfl)
  rcases mD (t:=jY) (Φ:=λr=>r=(.tup [.nils,.int .i64 7],[])) 1 (λk=>.h13b (i:Int) (k:Int) l) (λk=>∀h:k<i,l[k]≠l[i]) i (λk x _=>by
   have d:k<Io l:=by omega
   have s:Q0 ((k:Int)<(i:Int))=Q3:=zL x;have p:(jY (.h13b (i:Int) (k:Int) l)).val=if(l[i]==l[k])=Q3 then Q1 (.inr (.tup [.nils,.int .i64 7],[]))else Q1 (.inl (.h13b (i:Int) ((k+1:Nat):Int) l)):=by
    show(jY (.h13b _ _ _)).val=_;simp only[jY,Q8,s,zz c,zz d,yp c,yp d,z7 _ _ c,z7 _ _ d,zh];rw[zt k um]
   by_cases h:l[i]=l[k]
   .exact .inr ⟨λq=>q x h.symm,_,z6.of (by rw[p,ze (by simpa using h)]),rfl⟩
   .exact .inl ⟨λ_=>Ne.symm h,zN.of (by rw[p,zg (by simpa using h)])⟩)with⟨a,b⟩|⟨a,r,b,rfl⟩
  .refine .inl ⟨λk x=>a k x x,((n.trans b).trans (zN.of ?_)).mono ow⟩;show(jY (.h13b _ _ _)).val=_;simp only[jY,Q8,zG];rw[zt i um];rfl
  .exact .inr ⟨λh=>a λk x _=>h k x,(n.ends b).mono ow⟩
 have e:l.Nodup↔∀i,i<Io l->∀h:i<Io l,∀k(x:k<i),l[k]≠l[i]:=by
  unfold List.Nodup;rw[List.pairwise_iff_getElem];exact⟨λh i _ c k x=>h k i ow c x,λh i j c o g=>h j o o i g⟩
 rcases mD (t:=jY) (Φ:=λr=>r=(.tup [.nils,.int .i64 7],[])) 1001 (λi=>.h10b (i:Int) l) (λi=>∀h:i<Io l,∀k(x:k<i),l[k]≠l[i]) (Io l) (λi c _=>by
  rcases m i c with⟨a,b⟩|⟨a,b⟩
  .exact .inl ⟨λ_=>a,b⟩
  .exact .inr ⟨λh=>a (h c),_,b,rfl⟩)with⟨a,b⟩|⟨a,r,b,rfl⟩
 .rw[ze (e.2 a)];refine(b.ends (z6.of ?_)).mono ow;show(jY (.h10b _ _)).val=_;simp only[jY,Q8,zG];rfl
 .rw[zg (λh=>a (e.1 h))];exact b.mono ow
theorem Je{x:List zH}(A:Io t.2.1<=1000000)(B:Io x<=1000):oN t.2.1 x=Q1 (ite (gq t x=0) (jr t x) [],gq t x,()):=by
 have a:(zqO t.2.1 x).val=Q1 (.inl (pl3 t x 0)):=rfl
 rcases mD (t:=jY) (Φ:=λr=>r=(.tup [.nils,.int .i64 4],[])) 1 (pl3 t x) (λi=>∀h:i<Io x,¬LT.lt (α:=Int) (zV t x[i]) 0) (Io x) (λi a _=>by
  have u:=zdx A B a;by_cases h:LT.lt (α:=Int) (zV t x[i]) 0
  .exact .inr ⟨λq=>q a h,_,z6.of (by rw[u,ze h]),rfl⟩
  .exact .inl ⟨λ_=>h,zN.of (by rw[u,zg h])⟩)with⟨k,d⟩|⟨k,r,d,rfl⟩
 .have z:∀s∈x,¬LT.lt (α:=Int) (zV t s) 0:=by
   intro s C;obtain⟨j,p,rfl⟩:=gD C;exact k j p p
  have g:gq t x=if(jr t x).Nodup then 0 else 7:=by unfold gq;rw[ze z];rfl
  have D:(jr t x).length=Io x:=by unfold jr;simp
  cases b:Io x with
  | zero=>
   have c:x=[]:=AF b;subst c;have m:z6 jY 2 (pl3 t [] 0) (.tup [.nils,.int .i64 0],[]):=by
    refine(zN.of (s':=.h10 0) ?_).ends (z6.of ?_)
    .rfl
    .rfl
   have w:gq t []=0:=by rw[g,ze (by unfold jr;exact List.nodup_nil)]
   rw[w,ze rfl];exact zB a m ow rfl
  | succ n=>
   rw[b]at d;have v:jr t (x.take (n+1))=jr t x:=by rw[<-b,gF]
   have m:zN jY 1 (pl3 t x (n+1)) (.h10b ((0:Nat):Int) (jr t x)):=zN.of (by
    show(jY (.h3b _ _ _ _)).val=_;rw[v,<-b];simp only[jY,Q8,zG];rfl)
   have y:=zv3 (l:=jr t x) ow;have e:=d.ends (m.ends y);rw[g];by_cases o:(jr t x).Nodup
   .rw[ze o]at e|-;exact zB a e ow rfl
   .rw[zg o]at e|-;exact zB a e ow rfl
 .have g:gq t x=4:=by
   unfold gq;rw[zg];intro h;exact k λi _ a=>h _ (bp a)
  rw[g];exact zB a d ow rfl
theorem MR{names:List zH}(x:Io t.2.1<=1000000)(a:Io names<=1000):oM t.2.1 names=Q3/\rJ t.2.1 names=(ite (gq t names=0) (jr t names) [],gq t names):=by have h:=Je x a;exact⟨by unfold oM;rw[h];rfl,by unfold rJ;rw[h];rfl⟩
def VV(e:za)(c:aM):Int:=
 if(e.op==[])=Q3 then 0 else if(cond ((b8 e c).2==0) (cond ((b8 e c).1!=3) ((b8 e c).1!=0) Q4) Q4)=Q3 then 5 else(b8 e c).2
theorem UB{m:za}{c:aM}(b:tp m)(i:Io c<=1000000)(j:(m.op==[])=Q4->dD m=Q3):Bp m c=Q1 (VV m c,()):=by
 unfold VV;cases x:(m.op==[])
 .have h:=j x;have d:=nI b;have e:=rT b;have a:=M2 i h;have l:oT m c=Q3:=by unfold oT;rw[a];rfl
  have n:iN m c=b8 m c:=by unfold iN;rw[a];rfl
  have g:(cond ((b8 m c).2==0) (cond ((b8 m c).1!=0) ((b8 m c).1!=3) Q4) Q4)=(cond ((b8 m c).2==0) (cond ((b8 m c).1!=3) ((b8 m c).1!=0) Q4) Q4):=by
   cases((b8 m c).2==0)<;>cases((b8 m c).1!=0)<;>cases((b8 m c).1!=3)<;>rfl
  have k:(zcZ m c).val=Q1 (.inr (.int .i64 (ite ((cond ((b8 m c).2==0) (cond ((b8 m c).1!=3) ((b8 m c).1!=0) Q4) Q4)=Q3) 5 ((b8 m c).2)),[])):=by
   simp only[zcZ,Q8,zm,x,d,e,h,l,n,g,zh,zE,zp,ci];split<;>rfl
  exact zO k rfl
 .refine zO (r:=(.int .i64 0,[])) ?_ rfl;simp only[zcZ,Q8,x,zh]
theorem Zu{m:za}{cols:aM}(b:tp m)(x:Io cols<=1000000)(a:(m.op==[])=Q4->dD m=Q3):oX m cols=Q3/\qD m cols=VV m cols:=by have h:=UB b x a;exact⟨by unfold oX;rw[h];rfl,by unfold qD;rw[h];rfl⟩
theorem FG(l:List zH):gY l=Lib.join l fh:=by
 have h:=qK l 0 [];unfold gY;rw[h];have e:l.map my=l:=by
  rw[show(my:zH->zH)=id from rfl];exact List.map_id l
 rw[F5,e]
theorem zd4(h:wK s)(o:s.1=dj)(x:lD s=Q3):iS s=Qk s:=by unfold lD at x;simp only[aF,aR]at x;rw[(iT (zgW h.sh o)).2,tC,Ch x.2.1,FG];unfold Qk;simp
theorem zd5(h:wK s)(o:s.1=gj)(x:oL s=Q3):iS s=qQ s:=by unfold oL at x;simp only[aF]at x;rw[(iT (zgY h.sh o)).2,tJ,Ch x.1];unfold qQ;simp
theorem zaa(h:wK s)(o:s.1=lm)(x:g7 s=Q3):iS s=mA s:=by unfold g7 at x;simp only[aF,aR]at x;rw[(iT (zgX h.sh o x.1)).2,tG,Ch x.2.1];unfold mA;simp
theorem PM(h:wK s)(n:jQ s.1):∃t,o6 s=Q1 (t,eF s,()):=by
 have k:∀(x:zJ)(c:Bool)(t e:zH),eQ s=Q1 (t,x,c,())->Io t<=900000->BM x->(c=Q3->t=e)->(c=Q3->iS s=e)->fC s=(c&&(zU s.2.1&&fA x s))->∃t,o6 s=Q1 (t,eF s,()):=by
  intro x c t e a b d i j l;obtain⟨t',m⟩:=HG h a b d;refine⟨t',?_⟩;rw[m,ZY,l];cases g:c
  .rfl
  .rw[j g,i g];cases zU s.2.1<;>cases fA x s<;>rfl
 rcases n with o|o|o
 .obtain⟨t,a,b,d⟩:=SP h o;exact k _ _ _ _ a b (fP h (.inl rfl) (.inr rfl) (.inr rfl) (.inr rfl) (.inl rfl) (.inr rfl) (.inr rfl) (.inr rfl)) d (zd4 h o) (Sb h o)
 .obtain⟨a,b⟩:=SQ h o;exact k _ _ _ _ a b (fP h (.inr rfl) (.inr rfl) (.inr rfl) (.inr rfl) (.inl rfl) (.inr rfl) (.inr rfl) (.inr rfl)) (λ_=>rfl) (zd5 h o) (Sc h o)
 .obtain⟨t,a,b,d⟩:=NS h o;exact k _ _ _ _ a b (fP h (.inl rfl) (.inr rfl) (.inr rfl) (.inr rfl) (.inl rfl) (.inr rfl) (.inr rfl) (.inr rfl)) d (zaa h o) (MP h o)
theorem Rg{g c:za->za->Bool}:∀(l m:List za),Io l=Io m->(∀x∈l,∀y,c x y=Q3/\(g x y=Q3↔x=y))->TT g c l m=Q3/\(eqL g l m=Q3↔l=m)
 |[],[],_,_=>⟨rfl,by simp[eqL]⟩
 |[],_::_,h,_=>by simp at h
 |_::_,[],h,_=>by simp at h
 | x::r,y::q,h,hx=>by
  obtain⟨d,b⟩:=hx x sw y;obtain⟨i,j⟩:=Rg r q (by simpa using h) (λz n=>hx z (by simp[n]));rw[TT,eqL];rw[d];by_cases k:g x y=Q3
  .have:=b.1 k;subst this;simp[k,i,j]
  .have a:x≠y:=λe=>k (b.2 e)
   simp[k,a]
theorem Ny:∀(N:Nat)(a b:za),oe N a=Q3->jz N a b=Q3/\(fJ N a b=Q3↔a=b)
 |0,_,_,h=>by cases h
 | N + 1,.mk m v s l,.mk o i n d,h=>by
  rw[oe]at h;simp only[aF,aR,dJ]at h;obtain⟨_,C⟩:=h;have A:jz (N+1) (.mk m v s l) (.mk o i n d)=(cond (m==o) (cond (eqV v i) (cond (s==n) (yZ (fJ N) (jz N) l d) Q3) Q3) Q3):=rfl;have B:fJ (N+1) (.mk m v s l) (.mk o i n d)=(cond (m==o) (cond (eqV v i) (cond (s==n) (OR (fJ N) l d) Q4) Q4) Q4):=rfl;rw[A,B];unfold yZ OR;have q:eqV v i=Q3↔v=i:=by unfold eqV;simp[Prod.ext_iff]
  by_cases k:m=o
  .by_cases j:v=i
   .by_cases u:s=n
    .by_cases p:Io l=Io d
     .obtain⟨E,F⟩:=Rg (g:=fJ N) (c:=jz N) l d p (λx D y=>Ny N x y (C x D));have w:((↑l.length:Int)!=(↑d.length:Int))=Q4:=by rw[<-gT,jB];exact λh=>h p
      rw[w,q.2 j];simp[k,u,E,F,j]
     .have w:((↑l.length:Int)!=(↑d.length:Int))=Q3:=jB.2 p;have z:l≠d:=λe=>p (by rw[e])
      rw[w,q.2 j];simp[k,u,z]
    .rw[q.2 j];simp[k,u]
   .have:eqV v i=Q4:=by rw[<-gT,q];exact j
    rw[this];simp[k,j]
  .simp[k]
variable {a:List Int}
theorem ND{b:List Int}(h:Io a<=1000000):J6 a b=Q3/\(pu a b=Q3↔a=b):=by
 have d:∃r,J7 a b=Q1 (r,())/\(r=Q3↔a=b):=by
  by_cases x:Io a=Io b
  .have c:((↑(Io a):Int)!=(↑(Io b):Int))=Q4:=by rw[<-gT,jB];exact λh=>h x
   have j:(zc0 a b).val=Q1 (.inl (.h4 a b (Io a:Int) 0)):=by
    simp only[zc0,Q8,c];rfl
   rcases mj (t:=ztq) (la:=a) (lb:=b) (λi=>.h4 a b (Io a:Int) i) (.inr (.kb Q3,[])) (λi=>getD a (i:Int).toNat (zi zj)==getD b (i:Int).toNat (zi zj)) (λ_ _=>rfl) (λi _ m c=>by rw[bd,z7 _ _ m,z7 _ _ c]) x h with⟨q,k⟩|⟨q,k⟩
   .exact⟨Q3,zB j (k 0 _ rfl) ow rfl,by simp[q]⟩
   .exact⟨Q4,zB j k ow rfl,by simp[q]⟩
  .refine⟨Q4,zO (r:=HH) ?_ rfl,by simp;exact λe=>x (by rw[e])⟩;simp only[zc0,Q8,jB.2 x,zh]
 obtain⟨r,g,l⟩:=d;refine⟨by unfold J6;rw[g];rfl,?_⟩;have:pu a b=r:=by unfold pu;rw[g];rfl
 rw[this];exact l
theorem ZP{c b:aM}(h:Io c<=1000000):PW c b=Q3/\(Ax c b=Q3↔c=b):=by
 have d:∃r,J4 c b=Q1 (r,())/\(r=Q3↔c=b):=by
  by_cases x:Io c=Io b
  .have a:((↑(Io c):Int)!=(↑(Io b):Int))=Q4:=by rw[<-gT,jB];exact λh=>h x
   have j:(zc5 c b).val=Q1 (.inl (.h4 c b (Io c:Int) 0)):=by
    simp only[zc5,Q8,a];rfl
   rcases mj (t:=ztt) (la:=c) (lb:=b) (λi=>.h4 c b (Io c:Int) i) (.inr (.kb Q3,[])) (λi=>((getD c (i:Int).toNat (zi zl)).1==(getD b (i:Int).toNat (zi zl)).1&&((getD c (i:Int).toNat (zi zl)).2.1==(getD b (i:Int).toNat (zi zl)).2.1&&((getD c (i:Int).toNat (zi zl)).2.2==(getD b (i:Int).toNat (zi zl)).2.2&&Q3)))) (λ_ _=>rfl) (λi _ m a=>by rw[VW,z7 _ _ m,z7 _ _ a]) x h with⟨q,k⟩|⟨q,k⟩
   .exact⟨Q3,zB j (k 0 _ rfl) ow rfl,by simp[q]⟩
   .exact⟨Q4,zB j k ow rfl,by simp[q]⟩
  .refine⟨Q4,zO (r:=HH) ?_ rfl,by simp;exact λe=>x (by rw[e])⟩;simp only[zc5,Q8,jB.2 x,zh]
 obtain⟨r,g,l⟩:=d;refine⟨by unfold PW;rw[g];rfl,?_⟩;have:Ax c b=r:=by unfold Ax;rw[g];rfl
 rw[this];exact l
theorem ZQ{a b:dp}(h:Io a<=1000000):PX a b=Q3/\(Ay a b=Q3↔a=b):=by
 have d:∃r,J5 a b=Q1 (r,())/\(r=Q3↔a=b):=by
  by_cases x:Io a=Io b
  .have c:((↑(Io a):Int)!=(↑(Io b):Int))=Q4:=by rw[<-gT,jB];exact λh=>h x
   have j:(zc6 a b).val=Q1 (.inl (.h4 a b (Io a:Int) 0)):=by
    simp only[zc6,Q8,c];rfl
   rcases mj (t:=ztu) (la:=a) (lb:=b) (λi=>.h4 a b (Io a:Int) i) (.inr (.kb Q3,[])) (λi=>((getD a (i:Int).toNat (zi zA)).1==(getD b (i:Int).toNat (zi zA)).1&&((getD a (i:Int).toNat (zi zA)).2==(getD b (i:Int).toNat (zi zA)).2&&Q3))) (λ_ _=>rfl) (λi _ m c=>by rw[zjM,z7 _ _ m,z7 _ _ c]) x h with⟨q,k⟩|⟨q,k⟩
   .exact⟨Q3,zB j (k 0 _ rfl) ow rfl,by simp[q]⟩
   .exact⟨Q4,zB j k ow rfl,by simp[q]⟩
  .refine⟨Q4,zO (r:=HH) ?_ rfl,by simp;exact λe=>x (by rw[e])⟩;simp only[zc6,Q8,jB.2 x,zh]
 obtain⟨r,g,l⟩:=d;refine⟨by unfold PX;rw[g];rfl,?_⟩;have:Ay a b=r:=by unfold Ay;rw[g];rfl
 rw[this];exact l
theorem Z6{a b:aq}(A:Io a.2.1<=1000000)(D:Io a.2.2.2.1<=1000000)(C:Io a.t.1<=1000000)(B:oe 16 a.t.2=Q3):Kr a b=Q3/\(tg a b=Q3↔a=b):=by
 obtain⟨h,e,x,g,i,m⟩:=a;obtain⟨c,j,d,k,l,n⟩:=b;obtain⟨p,v⟩:=ZP (b:=j) (show Io e<=1000000 from A);obtain⟨q,w⟩:=ND (b:=k) (show Io g<=1000000 from D);obtain⟨s,y⟩:=ZQ (b:=l) (show Io i<=1000000 from C);obtain⟨u,z⟩:=Ny 16 m n B;have o:Ks (h,e,x,g,i,m) (c,j,d,k,l,n)=Q1 ((cond (h==c) (cond (x==d) (cond (Ax e j) (cond (pu g k) (cond (Ay i l) (fJ 16 m n) Q4) Q4) Q4) Q4) Q4),()):=by
  refine zO (r:=(.bool _,[])) ?_ rfl;simp only[zqP,Q8,zm,p,q,s,u];rw[ze];cases(h==c)<;>cases(x==d)<;>cases Ax e j<;>cases pu g k<;>cases Ay i l<;>rfl
 refine⟨by unfold Kr;rw[o];rfl,?_⟩;have:tg (h,e,x,g,i,m) (c,j,d,k,l,n)=(cond (h==c) (cond (x==d) (cond (Ax e j) (cond (pu g k) (cond (Ay i l) (fJ 16 m n) Q4) Q4) Q4) Q4) Q4):=by unfold tg;rw[o];rfl
 rw[this];simp only[b5];rw[<-v,<-w,<-y,<-z];have E:(h==c)=Q3↔h=c:=bd;have F:(x==d)=Q3↔x=d:=bd;rw[<-E,<-F];cases(h==c)<;>cases(x==d)<;>cases Ax e j<;>cases pu g k<;>cases Ay i l<;>cases fJ 16 m n<;>simp
variable {h:ap}
theorem Y5{b:ap}(w:Io h.2.2.2.1.2.1<=1000000)(B:Io h.2.2.2.1.2.2.2.1<=1000000)(z:Io h.2.2.2.1.t.1<=1000000)(y:oe 16 h.2.2.2.1.t.2=Q3)(C:Io h.t.1<=1000000):I7 h b=Q3/\(ML h b=Q3↔h=b):=by
 obtain⟨c,d,e,a,m,g⟩:=h;obtain⟨i,j,k,x,n,l⟩:=b;obtain⟨q,u⟩:=Z6 (b:=x) w B z y;obtain⟨s,v⟩:=ND (b:=n) (show Io m<=1000000 from C);have o:Kr (a.1,a.2.1,a.2.2.1,a.2.2.2.1,a.t.1,a.t.2) (x.1,x.2.1,x.2.2.1,x.2.2.2.1,x.t.1,x.t.2)=Q3:=q;have A:tg (a.1,a.2.1,a.2.2.1,a.2.2.2.1,a.t.1,a.t.2) (x.1,x.2.1,x.2.2.1,x.2.2.2.1,x.t.1,x.t.2)=tg a x:=rfl;have p:I8 (c,d,e,a,m,g) (i,j,k,x,n,l)=Q1 ((cond (c==i) (cond (d==j) (cond (e==k) (cond (g==l) (cond (tg a x) (pu m n) Q4) Q4) Q4) Q4) Q4),()):=by
  refine zO (r:=(.bool _,[])) ?_ rfl;simp only[zqE,Q8,zm,o,A,s];rw[ze];cases(c==i)<;>cases(d==j)<;>cases(e==k)<;>cases(g==l)<;>cases tg a x<;>rfl
 refine⟨by unfold I7;rw[p];rfl,?_⟩;have:ML (c,d,e,a,m,g) (i,j,k,x,n,l)=(cond (c==i) (cond (d==j) (cond (e==k) (cond (g==l) (cond (tg a x) (pu m n) Q4) Q4) Q4) Q4) Q4):=by unfold ML;rw[p];rfl
 rw[this];simp only[b5];rw[<-u,<-v];have D:(c==i)=Q3↔c=i:=bd;have E:(d==j)=Q3↔d=j:=bd;have F:(e==k)=Q3↔e=k:=bd;have G:(g==l)=Q3↔g=l:=bd;rw[<-D,<-E,<-F,<-G];cases(c==i)<;>cases(d==j)<;>cases(e==k)<;>cases(g==l)<;>cases tg a x<;>cases pu m n<;>simp
theorem M9(s:zH):∀(l:zP)(i:Nat),gX s l (i:Int)=ab (λx:ah=>x.1.1==s) l i
 |[],_=>rfl
 | x::r,i=>by
  rw[gX,ab];have h:=M9 s r (i+1);have e:(((i+1:Nat)):Int)=(i:Int)+1:=by omega
  rw[e]at h;by_cases a:(x.1.1==s)=Q3
  .rw[ze a,ze a]
  .rw[zg a,zg a,h]
theorem dP(l:zP)(s:zH):lM l s=ac l s:=M9 s l 0
variable {x:ah}
theorem ed.keys(h:ed x):∀r∈x.2,zK x.1.2.2.1 (Io r)=Q3:=by intro r b;obtain⟨a,_⟩:=gn h.may;rw[(dl (h.fits r b)).1];exact oG a
theorem WY(x:ah)(c:Int)(v:zo):Q0 (LT.lt (α:=Int) (ab (λr=>bC r c v) x.2 0) 0)=!fY x c v:=by
 unfold fY;rcases gm (λr=>bC r c v) x.2 0 with h|⟨h,_⟩
 .rw[h];rfl
 .have:Q0 (ab (λr=>bC r c v) x.2 0>=0)=Q3:=zy ow;rw[this,ae ow];rfl
theorem JB{db:zP}(v:∀x∈db,ed x)(M:∀x∈db,KB x)(W:Io db<=13):∃b,vR db=Q1 (b,())/\(b=Q3↔FP db):=by
 have u:=mD (t:=sF) (Φ:=IsF) 1010000 (λi=>.h2 db (i:Int)) (λi=>∀f∈(getD db i (zi zk)).1.t.1,LE.le (α:=Int) 0 (ac db f.2)/\∀a∈(getD db i (zi zk)).2,(zX f.1 a).1≠0->fY (aG db f.2) (aG db f.2).1.2.2.1 (zX f.1 a)=true) (Io db) (by
  intro i e _;have J:=ce (d:=zi zk) e;have X:=(M _ J).t.nrf;have Y:=(M _ J).rows;have F:=(v _ J).cols;generalize A:getD db i (zi zk)=x at*;have l:(sF (.h2 db (i:Int))).val=Q1 (.inl (.h5 db (i:Int) ((0:Nat):Int))):=by
   simp only[sF,Q8,zL e];rfl
  have T:=mD (t:=sF) (Φ:=IsF) 1002 (λk=>.h5 db (i:Int) (k:Int)) (λk=>LE.le (α:=Int) 0 (ac db (getD x.1.t.1 k (zi zA)).2)/\∀a∈x.2,(zX (getD x.1.t.1 k (zi zA)).1 a).1≠0->fY (aG db (getD x.1.t.1 k (zi zA)).2) (aG db (getD x.1.t.1 k (zi zA)).2).1.2.2.1 (zX (getD x.1.t.1 k (zi zA)).1 a)=Q3) (Io x.1.t.1) (by
   intro k I _;have G:=ce (d:=zi zA) I;have E:=F _ G;generalize U:getD x.1.t.1 k (zi zA)=f at*;have l:(sF (.h5 db (i:Int) (k:Int))).val=if Q0 (LT.lt (α:=Int) (ac db f.2) 0)=Q3 then Q1 (.inr (.kb Q4,[]))else Q1 (.inl (.h12 db (i:Int) (k:Int) (ac db f.2) ((0:Nat):Int) (f,()))):=by
    simp only[sF,Q8,zz e,aK,A,zL I,zz I,U,dP,zh];rfl
   by_cases q:LE.le (α:=Int) 0 (ac db f.2)
   .have O:=zN.of (t:=sF) (s:=.h5 db (i:Int) (k:Int)) (by rw[l,zg (by rw[aR];omega)]);have w:aG db f.2∈db:=ce (by
     rcases yQ db f.2 with h|⟨_,h⟩
     .rw[h]at q;exact zC q (by decide)
     .omega)
    have g:=M _ w;have c:=v _ w;have C:=mD (t:=sF) (Φ:=IsF) 1 (λj=>.h12 db (i:Int) (k:Int) (ac db f.2) (j:Int) (f,())) (λj=>(zX f.1 (getD x.2 j (zi zf.sl))).1≠0->fY (aG db f.2) (aG db f.2).1.2.2.1 (zX f.1 (getD x.2 j (zi zf.sl)))=Q3) (Io x.2) (by
     intro j H _;have l:(sF (.h12 db (i:Int) (k:Int) (ac db f.2) (j:Int) (f,()))).val=if(cond ((zX f.1 (getD x.2 j (zi zf.sl))).1!=0) (!fY (aG db f.2) (aG db f.2).1.2.2.1 (zX f.1 (getD x.2 j (zi zf.sl)))) Q4)=Q3 then Q1 (.inr (.kb Q4,[]))else Q1 (.inl (.h12 db (i:Int) (k:Int) (ac db f.2) ((j+1:Nat):Int) (f,()))):=by
      simp only[sF,Q8,zm,aQ,zz e,aK,A,zL H,zz H,E _ (ce (d:=zi zf.sl) H),dT q,UC g.t c.may c.keys g.rows,zh,sM];rw[Zv g.t c.may c.keys g.rows,WY];rw[ze (by cases((getD (getD x.2 j (zi zf.sl)) (toNat f.1) (zi zf)).1!=0)<;>rfl)];rw[zt j um]
     by_cases y:(zX f.1 (getD x.2 j (zi zf.sl))).1=0
     .exact .inl ⟨λh=>zC y h,zN.of (by rw[l,zg (by rw[y];simp)])⟩
     .have o:((zX f.1 (getD x.2 j (zi zf.sl))).1!=0)=Q3:=by simpa using y
      by_cases z:fY (aG db f.2) (aG db f.2).1.2.2.1 (zX f.1 (getD x.2 j (zi zf.sl)))=Q3
      .exact .inl ⟨λ_=>z,zN.of (by rw[l,zg (by rw[z,o];simp)])⟩
      .exact .inr ⟨λh=>z (h y),_,z6.of (by rw[l,ze (by rw[o];simpa using z)]),rfl⟩)
    rcases C with⟨p,m⟩|⟨p,r,m,L⟩
    .have n:(sF (.h12 db (i:Int) (k:Int) (ac db f.2) (Io x.2:Int) (f,()))).val=Q1 (.inl (.h5 db (i:Int) ((k+1:Nat):Int))):=by
      simp only[sF,Q8,zz e,aK,A,zG];rw[zt k um];rfl
     refine .inl ⟨⟨q,?_⟩,((O.trans m).trans (zN.of n)).mono ow⟩;exact(aD (Q:=λa=>(zX f.1 a).1≠0->fY (aG db f.2) (aG db f.2).1.2.2.1 (zX f.1 a)=Q3)).1 p
    .refine .inr ⟨λh=>p ?_,r,(O.ends m).mono ow,L⟩;exact(aD (Q:=λa=>(zX f.1 a).1≠0->fY (aG db f.2) (aG db f.2).1.2.2.1 (zX f.1 a)=Q3)).2 h.2
   .exact .inr ⟨λh=>q h.1,_,(z6.of (by rw[l,ze (by rw[aR];omega)])).mono ow,rfl⟩)
  rcases T with⟨N,B⟩|⟨N,r,B,L⟩
  .have n:(sF (.h5 db (i:Int) (Io x.1.t.1:Int))).val=Q1 (.inl (.h2 db ((i+1:Nat):Int))):=by
    simp only[sF,Q8,zz e,aK,A,zG];rw[zt i um];rfl
   refine .inl ⟨?_,(((zN.of l).trans B).trans (zN.of n)).mono ow⟩;exact(aD (Q:=λf:bV=>LE.le (α:=Int) 0 (ac db f.2)/\∀a∈x.2,(zX f.1 a).1≠0->fY (aG db f.2) (aG db f.2).1.2.2.1 (zX f.1 a)=Q3)).1 N
  .refine .inr ⟨λh=>N ?_,r,((zN.of l).ends B).mono ow,L⟩;exact(aD (Q:=λf:bV=>LE.le (α:=Int) 0 (ac db f.2)/\∀a∈x.2,(zX f.1 a).1≠0->fY (aG db f.2) (aG db f.2).1.2.2.1 (zX f.1 a)=Q3)).2 h)
 have S:(∀i,i<Io db->∀f∈(getD db i (zi zk)).1.t.1,LE.le (α:=Int) 0 (ac db f.2)/\∀a∈(getD db i (zi zk)).2,(zX f.1 a).1≠0->fY (aG db f.2) (aG db f.2).1.2.2.1 (zX f.1 a)=Q3)↔FP db:=
  aD (Q:=λx:ah=>∀f∈x.1.t.1,LE.le (α:=Int) 0 (ac db f.2)/\∀a∈x.2,(zX f.1 a).1≠0->fY (aG db f.2) (aG db f.2).1.2.2.1 (zX f.1 a)=Q3)
 have e:(zqK db).val=Q1 (.inl (.h2 db ((0:Nat):Int))):=rfl;rcases u with⟨u,D⟩|⟨u,r,D,P⟩
 .refine⟨Q3,zB e (D.ends (z6.of (r:=(.kb Q3,[])) ?_)) ow rfl,λ_=>S.1 u,λ_=>rfl⟩;simp only[sF,Q8,zG];rfl
 .unfold IsF at P;subst P;exact⟨Q4,zB e D ow rfl,λh=>(by cases h),λh=>zC (S.2 h) u⟩
theorem JD{a:zP}(D:∀x∈a,KB x):∃e:Int,qE a=Q1 (e,())/\(e=0↔jc a):=by
 by_cases v:Io a<=12
 case neg=>
  refine⟨13,?_,λh=>(by cases h),λh=>zC h.few v⟩;unfold qE ao bR;simp only[i9p,Q8];rw[ze sg];rfl
 have g:(i9p a).val=Q1 (.inl (.h4 a ((0+1:Nat):Int))):=by
  simp only[i9p,Q8];rw[zg sg];rfl
 have n:=mD (t:=Z2) (Φ:=Err) 1 (λi=>.h4 a ((i+1:Nat):Int)) (λi=>Op.bytesLess (getD a i (zi zk)).1.1 (getD a (i+1) (zi zk)).1.1=Q3) (Io a-1) (by
  intro i g _;have E:i<Io a:=by omega
  have B:i+1<Io a:=by omega
  have s:(Z2 (.h4 a ((i+1:Nat):Int))).val=if(!Op.bytesLess (getD a i (zi zk)).1.1 (getD a (i+1) (zi zk)).1.1)=Q3 then Q1 (.inr (.int .i64 15,[]))else Q1 (.inl (.h4 a ((i+1+1:Nat):Int))):=by
   simp only[Z2,lY i um];simp only[Q8,zL B,zz B,zz E,aK,zh];rw[zt (i+1) um]
  by_cases h:Op.bytesLess (getD a i (zi zk)).1.1 (getD a (i+1) (zi zk)).1.1=Q3
  .exact .inl ⟨h,zN.of (by rw[s,zg (by rw[h];simp)])⟩
  .exact .inr ⟨h,_,z6.of (by rw[s,ze (by simpa using h)]),15,rfl,by decide⟩)
 rcases n with⟨z,n⟩|⟨z,r,n,e,m,j⟩
 case inr=>
  subst m;exact⟨e,zB g n ow rfl,λh=>zC h j,λh=>zC h.names z⟩
 have A:(Z2 (.h4 a ((Io a-1+1:Nat):Int))).val=Q1 (.inl (.h9 a ((0:Nat):Int))):=by
  simp only[Z2,Q8];rw[zg sg];rfl
 have w:=n.trans (zN.of A);have l:=mD (t:=Z2) (Φ:=Err) 1 (λi=>.h9 a (i:Int)) (λi=>ed (getD a i (zi zk))) (Io a) (by
  intro i g _;obtain⟨e,m,p⟩:=Jw (D _ (ce (d:=zi zk) g));have y:Ec (getD a i (zi zk))=Q3:=by unfold Ec;rw[m];rfl
  have k:Jv (getD a i (zi zk))=e:=by unfold Jv;rw[m];rfl
  have s:(Z2 (.h9 a (i:Int))).val=if(e !=0)=Q3 then Q1 (.inr (.int .i64 e,[]))else Q1 (.inl (.h9 a ((i+1:Nat):Int))):=by
   simp only[Z2,Q8,zm,zL g,zz g,aK,zh,aQ,y,k];rw[zt i um]
  by_cases h:e=0
  .exact .inl ⟨p.1 h,zN.of (by rw[s,zg (by rw[h];simp)])⟩
  .exact .inr ⟨λq=>h (p.2 q),_,z6.of (by rw[s,ze (by simpa using h)]),e,rfl,h⟩)
 rcases l with⟨q,l⟩|⟨q,r,l,e,m,j⟩
 case inr=>
  subst m;exact⟨e,zB g (w.ends l) ow rfl,λh=>zC h j,λh=>zC ((aD (Q:=ed)).2 h.rels) q⟩
 have c:=(aD (Q:=ed)).1 q;obtain⟨b,C,o⟩:=JB (db:=a) c D ow;have y:Ee a=Q3:=by unfold Ee;rw[C];rfl
 have k:JA a=b:=by unfold JA;rw[C];rfl
 have u:(Z2 (.h9 a (Io a:Int))).val=if(!b)=Q3 then Q1 (.inr (.int .i64 10,[]))else Q1 (.inr (.int .i64 0,[])):=by
  simp only[Z2,Q8,zG,y,k];rfl
 by_cases h:b=Q3
 .exact⟨0,zB g (w.ends (l.ends (z6.of (by rw[u,zg (by rw[h];simp)])))) ow rfl,λ_=>⟨v,z,c,o.1 h⟩,λ_=>rfl⟩
 .exact⟨10,zB g (w.ends (l.ends (z6.of (by rw[u,ze (by simpa using h)])))) ow rfl,λh=>(by cases h),λF=>zC (o.2 F.bound) h⟩
theorem Dq(x:Int):∀(l:List Int)(i:Nat),(∃j,∃g:j<Io l,e7 x l (i:Int)=((i+j:Nat):Int)/\l[j]=x/\∀k(d:k<j),l[k]≠x)\/(e7 x l (i:Int)=(-1:Int)/\x∉l)
 |[],i=>.inr ⟨rfl,sw⟩
 | a::r,i=>by
  rw[e7];by_cases h:x=a
  .rw[ze (by simpa using h)];exact .inl ⟨0,sw,sw,h.symm,λk d=>zC d ow⟩
  .rw[zg (by simpa using h),show((i:Int)+1)=((i+1:Nat):Int) by omega];rcases Dq x r (i+1)with⟨j,g,b,c,m⟩|⟨b,c⟩
   .refine .inl ⟨j+1,by simpa using g,by rw[b];congr 1;omega,c,λk d=>?_⟩;cases k with
    |zero=>exact λe=>h e.symm
    |succ k=>exact m k ow
   .exact .inr ⟨b,by simp[c,h]⟩
theorem Mk(l:List Int)(x:Int):(∃j,∃a:j<Io l,gV l x=(j:Int)/\l[j]=x/\∀k(d:k<j),l[k]≠x)\/(gV l x=(-1:Int)/\x∉l):=by
 rcases Dq x l 0 with⟨j,a,b,c⟩|h
 .exact .inl ⟨j,a,by show e7 x l ((0:Nat):Int)=_;rw[b,er],c⟩
 .exact .inr h
def zec(c:bX):Prop:=zU c.1=Q3/\LE.le (α:=Int) 1 c.2.1/\LE.le (α:=Int) c.2.1 3
theorem pg.col(h:pg t):∀c∈t.2.1,zec c:=by intro c a;obtain⟨i,x,rfl⟩:=gD a;have:=h.cols i x;rw[aZ,zZ x,bM]at this;exact⟨this.1,this.2.1,this.2.2.1⟩
variable {n:zH}
theorem Y9(h:¬LT.lt (α:=Int) (zV t n) 0):toNat (zV t n)<Io t.2.1:=by
 rcases wy t n with x|⟨x,a⟩
 .rw[x]at h;simp at h
 .omega
theorem pg.at(h:pg t){s:zH}(x:¬LT.lt (α:=Int) (zV t s) 0):zec (getD t.2.1 (toNat (zV t s)) (zi zl)):=h.col _ (ve _ _ (Y9 x))
theorem L3(x:jc d)(h:(0:Int)<=ac d n):pg (an d n):=(lR _).1 (x.rels _ (nt h)).may
theorem Hr(h:gq t l=0):(∀s∈l,¬LT.lt (α:=Int) (zV t s) 0)/\(jr t l).Nodup:=by
 unfold gq at h;split at h
 .rename_i x;split at h
  .exact⟨x,by assumption⟩
  .cases h
 .cases h
theorem Uj(a:wK s)(x:eF s=Q3)(b:jQ s.1):zU s.2.1=Q3/\cg s.t.t.1=Q3/\(s.1=dj->1<=Io s.2.2.2.1/\Io s.2.2.2.1<=8)/\(s.1=gj->zU s.t.t.t=Q3)/\(s.1=lm->Io s.2.2.2.1=2):=by
 have h:=jX x;rcases b with o|o|o
 .rw[Sb a o]at h;simp only[aF,lD,aR]at h;exact⟨h.2.1,h.1.2.1,λ_=>h.1.1.2,λk=>(by rw[o]at k;cases k),λk=>(by rw[o]at k;cases k)⟩
 .rw[Sc a o]at h;simp only[aF,oL]at h;exact⟨h.2.1,h.1.1,λk=>(by rw[o]at k;cases k),λ_=>h.1.2.2.1,λk=>(by rw[o]at k;cases k)⟩
 .rw[MP a o]at h;simp only[aF,g7,aR]at h;exact⟨h.2.1,h.1.2.1,λk=>(by rw[o]at k;cases k),λk=>(by rw[o]at k;cases k),λ_=>h.1.1⟩
abbrev rN(e:Int):aw:=(.tup [zPl,.int .i64 e],[])
def wO(r:aw)(x:Int×ap):Prop:=aS r.2 [am,zj] r.1=Q1 (x.2,x.1,())
theorem ek(e:Int):wO (rN e) (e,jT):=rfl
structure yE (s:zJ):Prop where
 wf:tp s.t.t.1
 may:(s.t.t.1.op==[])=Q4->dD s.t.t.1=Q3
theorem zk6(k:yE s)(x:Nat->lh)(R:aw){p:ap}(l:wO R (0,p))(q:p.2.2.2.1.t.2=s.t.t.1)(z:Io p.2.2.2.1.2.1<=1000)
  (y:∀i,i<Io p.2.2.2.1.2.1->(dW (x i)).val=if eP p.2.2.2.1.2.1 (getD p.2.2.2.1.2.1 i (zi zl)).1=Q3 then(ite ((gw p.2.2.2.1.2.1 (getD p.2.2.2.1.2.1 i (zi zl)).1!=(i:Int))=Q3) (Q1 (.inr (rN 7))) (Q1 (.inl (x (i+1)))))else none)
  (v:(dW (x (Io p.2.2.2.1.2.1))).val=if oX s.t.t.1 p.2.2.2.1.2.1=Q3 then(ite ((qD s.t.t.1 p.2.2.2.1.2.1!=0)=Q3) (Q1 (.inr (rN (qD s.t.t.1 p.2.2.2.1.2.1)))) (Q1 (.inr R)))else none):
  ∃r,z6 dW (Io p.2.2.2.1.2.1*1+1) (x 0) r/\wO r (iC 0 p):=by
 have j:∀i,i<Io p.2.2.2.1.2.1->(dW (x i)).val=if ay p.2.2.2.1.2.1 (getD p.2.2.2.1.2.1 i (zi zl)).1=(i:Int)then Q1 (.inl (x (i+1)))else Q1 (.inr (rN 7)):=by
  intro i h;rw[y i h,ze (oW ow),r7 ow];by_cases c:ay p.2.2.2.1.2.1 (getD p.2.2.2.1.2.1 i (zi zl)).1=(i:Int)
  .rw[ze c,zg (by simpa using c)]
  .rw[zg c,ze (by simpa using c)]
 obtain⟨u,w⟩:=Zu (cols:=p.2.2.2.1.2.1) k.wf ow k.may;rw[w,ze u,<-q]at v;have m:wB p.2.2.2.1=if∃i,i<Io p.2.2.2.1.2.1/\zV p.2.2.2.1 (getD p.2.2.2.1.2.1 i (zi zl)).1≠(i:Int)then 7 else VV p.2.2.2.1.t.2 p.2.2.2.1.2.1:=rfl
 unfold iC;rw[ze rfl,m]
 rcases mD (t:=dW) (Φ:=λr=>r=rN 7) 1 x (λi=>ay p.2.2.2.1.2.1 (getD p.2.2.2.1.2.1 i (zi zl)).1=(i:Int)) (Io p.2.2.2.1.2.1) (λi a _=>by
  have h:=j i a;by_cases c:ay p.2.2.2.1.2.1 (getD p.2.2.2.1.2.1 i (zi zl)).1=(i:Int)
  .exact .inl ⟨c,zN.of (by rw[h,ze c])⟩
  .exact .inr ⟨c,_,z6.of (by rw[h,zg c]),rfl⟩)with⟨d,b⟩|⟨d,r,b,rfl⟩
 .have e:¬∃i,i<Io p.2.2.2.1.2.1/\zV p.2.2.2.1 (getD p.2.2.2.1.2.1 i (zi zl)).1≠(i:Int):=by
   rintro⟨i,a,g⟩;exact g (d i a)
  rw[zg e];by_cases c:VV p.2.2.2.1.t.2 p.2.2.2.1.2.1=0
  .rw[zg (by simpa using c)]at v;rw[ze c];exact⟨_,(b.ends (z6.of v)).mono ow,l⟩
  .rw[ze (by simpa using c)]at v;rw[zg c];exact⟨_,(b.ends (z6.of v)).mono ow,ek _⟩
 .have o:∃i,i<Io p.2.2.2.1.2.1/\zV p.2.2.2.1 (getD p.2.2.2.1.2.1 i (zi zl)).1≠(i:Int):=by
   apply tq;intro e;refine d λi a=>?_
   apply tq;exact λn=>e ⟨i,a,n⟩
  rw[ze o,zg (by decide)];exact⟨_,b.mono ow,ek _⟩
abbrev plQ(z:zn Ts):ap:=(z.1,z.2.1,z.2.2.1,(z.2.2.2.1,z.t.1,z.t.2.1,[],[],z.t.q.1),z.t.q.2.1,z.t.t.1)
theorem zrU(c:yE s)(x:zn kh)(z:zn zjF)(a:z.t.q.1=s.t.t.1)(b:Io z.t.1<=1000):
  ∃r,z6 dW (Io z.t.1*1+1) (.h64 ((0:Nat):Int) (s,()) x z) r/\wO r (iC 0 (plQ z)):=by
 refine zk6 c (p:=plQ z) (λi=>.h64 (i:Int) (s,()) x z) ?R ?h a b (λi h=>?_) ?v
 case v=>
  simp only[dW,rE,Q8,zG,zm,zE,zp];rfl
 rotate_left
 .simp only[dW,rE,Q8,zL h,zz h,aK,zh];rw[zt i (by have:i<Io z.t.1:=h;unfold aJ;omega)]
 unfold wO;clear a;obtain⟨d,x,g,j,k,l,e,m,n,o⟩:=z;cases e;rfl
theorem zrV(c:yE s)(x:zn kh)(z:zn Ts)(a:z.t.q.1=s.t.t.1)(b:Io z.t.1<=1000):
  ∃r,z6 dW (Io z.t.1*1+1) (.h64bb ((0:Nat):Int) (s,()) x z) r/\wO r (iC 0 (plQ z)):=by
 refine zk6 c (p:=plQ z) (λi=>.h64bb (i:Int) (s,()) x z) ?R ?h a b (λi h=>?_) ?v
 case v=>
  simp only[dW,rE,Q8,zG,zm,zE,zp];rfl
 rotate_left
 .simp only[dW,rE,Q8,zL h,zz h,aK,zy h,zh];rw[zt i (by have:i<Io z.t.1:=h;unfold aJ;omega)]
 unfold wO;clear a;obtain⟨d,x,g,j,k,l,e,m,n,o⟩:=z;cases e;rfl
theorem zrW(c:yE s)(x:zn kh)(z:zn VZ)(a:z.t.q.1=s.t.t.1)(b:Io z.t.1<=1000):
  ∃r,z6 dW (Io z.t.1*1+1) (.h64bbb ((0:Nat):Int) (s,()) x z) r/\wO r (iC 0 (plQ z)):=by
 refine zk6 c (p:=plQ z) (λi=>.h64bbb (i:Int) (s,()) x z) ?R ?h a b (λi h=>?_) ?v
 case v=>
  simp only[dW,rE,Q8,zG,zm,zE,zp];rfl
 rotate_left
 .simp only[dW,rE,Q8,zL h,zz h,aK,zy h,zh];rw[zt i (by have:i<Io z.t.1:=h;unfold aJ;omega)]
 unfold wO;clear a;obtain⟨d,x,g,j,k,l,e,m,n,o⟩:=z;cases e;rfl
def sW(k:Int)(l:List Int):Nat->Int
 |0=>-1
 |i+1=>if l.getD i 0=k then(i:Int)else sW k l i
theorem Mu{k:Int}{a:List Int}{i:Nat}(d:i<Io a)(b:a[i]=k)(e:a.Nodup):∀x,x<=Io a->sW k a x=if i<x then(i:Int)else -1
 |0,_=>rfl
 | x+1,g=>by
  rw[sW,Mu d b e x ow,aZ,zZ (by omega:x<Io a),bM];by_cases h:a[x]=k
  .have:x=i:=by
    rcases Nat.lt_trichotomy x i with c|c|c
    .exact zC (h.trans b.symm) (List.pairwise_iff_getElem.1 e x i ow d c)
    .exact c
    .exact zC (b.trans h.symm) (List.pairwise_iff_getElem.1 e i x d ow c)
   rw[ze h,ze ow,this]
  .rw[zg h];by_cases c:i<x
   .rw[ze c,ze ow]
   .have:i≠x:=by rintro rfl;exact h b
    rw[zg c,zg ow]
theorem Mv{k:Int}{a:List Int}(h:k∉a):∀i,i<=Io a->sW k a i=-1
 |0,_=>rfl
 | i+1,x=>by
  rw[sW,Mv h i ow,aZ,zZ (by omega:i<Io a),bM,zg];rintro rfl;exact h (bp _)
variable {k:Int}
theorem Yg(c:a.Nodup):sW k a (Io a)=gV a k:=by
 rcases Mk a k with⟨j,b,h,x,_⟩|⟨h,x⟩
 .rw[h,Mu b x c _ (aj _),ze b]
 .rw[h,Mv x _ (aj _)]
variable {b c:zH}{on:Int}
theorem zvZ(y:yE s)(z:zn kh){a d:zH}{l:List Int}(v:Io l<=1000)(w:l.Nodup)(j:∀x∈l,zK x (Io t.2.1)=Q3):
  ∃r k,z6 dW k (.h24 ((0:Nat):Int) (s,()) z (a,b,c,d,[],-1,s.t.t.1,l,on,()) (t,())) r/\k<=10000/\
   wO r (iC (if LT.lt (α:=Int) (gV l t.2.2.1) 0 then 1 else 0) (a,b,c,(d,l.map (λx=>getD t.2.1 (toNat x) (zi zl)),gV l t.2.2.1,[],[],s.t.t.1),l,on)):=by
 have g:=zN.all (t:=dW) 1 (λi=>.h24 (i:Int) (s,()) z (a,b,c,d,(l.take i).map (λx=>getD t.2.1 (toNat x) (zi zl)),sW t.2.2.1 l i,s.t.t.1,l,on,()) (t,())) (Io l) (by
  intro i e;refine zN.of ?_;have m:getD l ((i:Int).toNat) (zi zj)=l[i]:=z7 l _ e;have n:zK l[i] (Io t.2.1)=Q3:=j _ (bp e);have o:sW t.2.2.1 l (i+1)=if l[i]=t.2.2.1 then(i:Int)else sW t.2.2.1 l i:=by
   rw[sW,aZ,zZ e,bM]
  have p:Q0 (Io ((l.take i).map (λx=>getD t.2.1 (toNat x) (zi zl)))+Io [getD t.2.1 (toNat l[i]) (zi zl)]<=1073741824)=Q3:=zy sg;simp only[dW,rE,Q8,zL e,zz e,m,n,p,zh];rw[zt i um,bx e,eI,o];by_cases k:l[i]=t.2.2.1
  .rw[ze k,ze (by simpa using k)];rfl
  .rw[zg k,zg (by simpa using k)];rfl)
 rw[gF,Yg w]at g;by_cases h:LT.lt (α:=Int) (gV l t.2.2.1) 0
 .rw[ze h];refine⟨rN 1,_,g.ends (z6.of ?_),ow,ek 1⟩;simp only[dW,rE,Q8,zG,zy h,zh,zE,zp]
 .rw[zg h];obtain⟨r,q,u⟩:=zrV y z (a,b,c,d,l.map (λx=>getD t.2.1 (toNat x) (zi zl)),gV l t.2.2.1,s.t.t.1,l,on,()) rfl (by simpa using v);refine⟨r,_,g.ends ((zN.of ?_).ends q),sg,u⟩;simp only[dW,rE,Q8,zG,ae h,zE,zp];rfl
theorem Aj(a:Int)(b:zH):∀(l:dp)(i:Nat),GE.ge (α:=Int) (iG a b l (i:Int)) 0↔(a,b)∈l
 | [],i=>by
  rw[iG];exact⟨λh=>zC h (by decide),λh=>by cases h⟩
 | x::r,i=>by
  rw[iG];split
  .rename_i h;have:(a,b)=x:=by
    simp only[Bool.and_true,aF,bd]at h;exact Prod.ext h.1 h.2
   rw[<-this];exact⟨λ_=>pP,λ_=>Int.natCast_nonneg i⟩
  next h=>have:=Aj a b r (i+1);rw[sK]at this;rw[cf];refine⟨λc=>.inr (this.1 c),λc=>this.2 (c.resolve_left ?_)⟩;rintro rfl;simp at h
theorem oD(l:dp)(x:bV):jp l x=Q3↔x∈l:=by unfold jp;rw[decide_eq_true_iff];exact Aj x.1 x.2 l 0
def lz(on:Int)(w:zH)(l:dp):Bool:=l.any λf=>f.1==on&&f.2==w
theorem O0(o:Int)(w:zH)(l:dp):lz o w l=jp l (o,w):=by
 apply gU.2;rw[oD];unfold lz;rw[List.any_eq_true];constructor
 .rintro⟨f,x,h⟩;simp only[aF,bd]at h;have:f=(o,w):=Prod.ext h.1 h.2
  rwa [this]at x
 .intro h;exact⟨_,h,sw⟩
theorem Ae(o:Int)(w:zH)(l:dp)(f:bV):lz o w (l++[f])=bif lz o w l then Q3 else bif f.1==o then f.2==w else Q4:=by unfold lz;simp only[List.any_append,List.any_cons,List.any_nil,Bool.or_false];cases(l.any λf=>f.1==o&&f.2==w)<;>cases(f.1==o)<;>rfl
theorem zv1(p:yE s)(z:zn kh){u:aq}{a d:zH}(v:Io t.2.1<=100)(w:Io u.2.1<=100):
  ∃r k,z6 dW k (.h48 ((0:Nat):Int) (s,()) z (a,b,c,d,t.2.1,t.2.2.1,s.t.t.1,[],on,()) (u,())) r/\k<=10000/\
   wO r (iC 0 (a,b,c,(d,t.2.1++fX u (Io u.2.1),t.2.2.1,[],[],s.t.t.1),js u.2.2.1 (Io u.2.1),on)):=by
 have o:=zN.all (t:=dW) 1 (λi=>.h48 (i:Int) (s,()) z (a,b,c,d,t.2.1++fX u i,t.2.2.1,s.t.t.1,js u.2.2.1 i,on,()) (u,())) (Io u.2.1) (by
  intro i x;refine zN.of ?_;have g:=lE u.2.2.1 i;have h:=Hp u.2.2.1 i;have q:(js u.2.2.1 i).length<=100:=by unfold js;rw[cz];omega
  have y:(fX u i).length<=100:=by unfold fX;rw[cz];omega
  simp only[dW,Q8,zL x,zz x,zh,z7 _ _ x];rw[zt i um];by_cases k:((i:Int)!=u.2.2.1)=Q3
  .rw[ze k]at h;rw[ze k,ze sg,ze sg,fX,fX,js,js,h,eI,eI,<-BZ];simp[zZ x]
  .rw[zg k]at h;rw[zg k,fX,fX,js,js,h])
 have q:(fX u (Io u.2.1)).length<=100:=by have:=lE u.2.2.1 (Io u.2.1);unfold fX;rw[cz];omega
 obtain⟨r,l,m⟩:=zrW p z (a,b,c,d,t.2.1++fX u (Io u.2.1),t.2.2.1,s.t.t.1,js u.2.2.1 (Io u.2.1),on,()) rfl sg;have n:zN dW 1 (.h48 (Io u.2.1:Int) (s,()) z (a,b,c,d,t.2.1++fX u (Io u.2.1),t.2.2.1,s.t.t.1,js u.2.2.1 (Io u.2.1),on,()) (u,())) (.h64bbb ((0:Nat):Int) (s,()) z (a,b,c,d,t.2.1++fX u (Io u.2.1),t.2.2.1,s.t.t.1,js u.2.2.1 (Io u.2.1),on,())):=zN.of (by
  simp only[dW,Q8,zG];rfl)
 have j:t.2.1++fX u 0=t.2.1:=sL _;have e:=o.ends (n.ends l);rw[j]at e;exact⟨r,_,e,sg,m⟩
theorem zv0(w:yE s)(z:zn kh){u:aq}{a d:zH}{k0:Int}(y:Io t.2.1<=100)(A:Io u.2.1<=100)(C:Io t.t.1<=1000):
  ∃r k,z6 dW k (.h38 ((0:Nat):Int) (s,()) z (a,b,c,d,k0,s.t.t.1,on,()) (t,()) (u,())) r/\k<=20000/\
   wO r (iC (if jp t.t.1 (on,s.t.t.t)=Q3 then(if LT.lt (α:=Int) 9 ((Io t.2.1:Int)+(Io u.2.1:Int))then 13 else 0)else 10) (a,b,c,(d,t.2.1++fX u (Io u.2.1),t.2.2.1,[],[],s.t.t.1),js u.2.2.1 (Io u.2.1),on)):=by
 rw[<-O0];by_cases l:0<Io t.t.1
 .have g:zN dW 1 (.h38 ((0:Nat):Int) (s,()) z (a,b,c,d,k0,s.t.t.1,on,()) (t,()) (u,())) (.h38b (lz on s.t.t.t (t.t.1.take (0+1))) ((0+1:Nat):Int) (s,()) z (a,b,c,d,k0,s.t.t.1,on,()) (t,()) (u,())):=zN.of (by
   have e:t.t.1.take (0+1)=[]++[t.t.1[0]]:=bx l;rw[e,Ae];simp only[dW,rE,Q8,zL l,zz l,zh,z7 _ _ l];rw[zt 0 um];cases((t.t.1[0]).1==on)<;>rfl)
  have n:=zN.all (t:=dW) 1 (λi=>.h38b (lz on s.t.t.t (t.t.1.take (i+1))) ((i+1:Nat):Int) (s,()) z (a,b,c,d,k0,s.t.t.1,on,()) (t,()) (u,())) (Io t.t.1-1) (by
   intro i j;have j:i+1<Io t.t.1:=by omega
   refine zN.of ?_;rw[bx j,Ae];simp only[dW,rE,Q8,zL j,zz j,z7 _ _ j];rw[zt (i+1) um];cases lz on s.t.t.t (t.t.1.take (i+1))<;>cases((t.t.1[i+1]).1==on)<;>rfl)
  have v:Io t.t.1-1+1=Io t.t.1:=by omega
  rw[v,gF]at n;have o:Γ Δ ((↑(Io t.2.1):Int)+(↑(Io u.2.1):Int))=(↑(Io t.2.1):Int)+(↑(Io u.2.1):Int):=lX _ ow ow;by_cases x:lz on s.t.t.t t.t.1=Q3
  .rw[ze x];by_cases m:LT.lt (α:=Int) 9 ((Io t.2.1:Int)+(Io u.2.1:Int))
   .rw[ze m];refine⟨rN 13,_,(g.trans n).ends (z6.of ?_),ow,ek 13⟩;simp only[dW,rE,Q8,zG,x,o,ci,zE,zp];rw[ze (by simpa using m)]
   .rw[zg m];obtain⟨r,k,p,B,q⟩:=zv1 w z (a:=a) (b:=b) (c:=c) (d:=d) (on:=on) y A;refine⟨r,_,(g.trans n).ends ((zN.of ?_).ends p),ow,q⟩;simp only[dW,rE,Q8,zG,x,o,ci,zE,zp];rw[zg (by simpa using m),ze sg];rfl
  .rw[zg x];have x:lz on s.t.t.t t.t.1=Q4:=by simpa using x
   refine⟨rN 10,_,(g.trans n).ends (z6.of ?_),ow,ek 10⟩;simp only[dW,rE,Q8,zG,x,da,zh,zE,zp]
 .have h:t.t.1=[]:=AF ow;rw[h,zg (by unfold lz;simp)];refine⟨rN 10,1,z6.of ?_,ow,ek 10⟩;simp only[dW,rE,Q8,h];rfl
theorem A4(x:k≠0):iC k h=(k,jT):=by unfold iC;rw[zg x]
theorem VX(t:aq)(n:List zH):eC t n=(jr t n).map λx=>getD t.2.1 (toNat x) (zi zl):=by unfold eC jr;rw[nf];rfl
variable {e:zP}
theorem of7(W:jc e)(hw:wK s)(N:eF s=Q3)(Z:jQ s.1)(hb:ll e=(0:Int))(L:∀x∈e,KB x)(G:zn kh):
  ∃r k,z6 dW k (.h7 e (bK s.2.2.1 s.t.t.t) ((0:Nat):Int) (s,()) G (s.1,s.2.2.1,s.t.t.t,s.2.1,0,s.t.t.1,0,())) r/\k<=90000/\wO r (ba e s):=by
 obtain⟨h9,C,m1,m2,m3⟩:=Uj hw N Z;have hs:yE s:=⟨hw.chk,λh=>by
  unfold cg at C;rcases zR (ij s.t.t.1)with c|c
  .rw[kP.1 c]at h;cases h
  .rw[c]at C;exact C⟩
 have hP:ba e s=if pb e s.2.2.1 s.t.t.t s.2.1=0 then cI e s else(pb e s.2.2.1 s.t.t.t s.2.1,jT):=by
  unfold ba;rw[ze ⟨Z,N,hb⟩]
 have h8:(bK s.2.2.1 s.t.t.t).length<=2:=by unfold bK;split<;>simp
 rw[hP];clear hP
 rcases mD (t:=dW) (Φ:=λr=>r=rN 6) 1 (λi=>.h7 e (bK s.2.2.1 s.t.t.t) (i:Int) (s,()) G (s.1,s.2.2.1,s.t.t.t,s.2.1,0,s.t.t.1,0,())) (λi=>∀h:i<(bK s.2.2.1 s.t.t.t).length,LE.le (α:=Int) 0 (ac e (bK s.2.2.1 s.t.t.t)[i])) (bK s.2.2.1 s.t.t.t).length (λi H _=>by
  have hv:(dW (.h7 e (bK s.2.2.1 s.t.t.t) (i:Int) (s,()) G (s.1,s.2.2.1,s.t.t.t,s.2.1,0,s.t.t.1,0,()))).val=if LT.lt (α:=Int) (ac e (bK s.2.2.1 s.t.t.t)[i]) 0 then Q1 (.inr (rN 6))else Q1 (.inl (.h7 e (bK s.2.2.1 s.t.t.t) ((i+1:Nat):Int) (s,()) G (s.1,s.2.2.1,s.t.t.t,s.2.1,0,s.t.t.1,0,()))):=by
   simp only[dW,rE,Q8,zL H,zz H,zh,z7 _ _ H,dP];rw[zt i um];by_cases c:LT.lt (α:=Int) (ac e (bK s.2.2.1 s.t.t.t)[i]) 0
   .rw[ze c,ze (by simpa using c)]
   .rw[zg c,zg (by simpa using c)]
  by_cases c:LT.lt (α:=Int) (ac e (bK s.2.2.1 s.t.t.t)[i]) 0
  .exact .inr ⟨λh=>by have:=h H;omega,_,z6.of (by rw[hv,ze c]),rfl⟩
  .exact .inl ⟨λ_=>by omega,zN.of (by rw[hv,zg c])⟩)with⟨h1,h2⟩|⟨h1,r,h2,rfl⟩
 rotate_left
 .have X:pb e s.2.2.1 s.t.t.t s.2.1=6:=by
   unfold pb;rw[zg];intro h;exact h1 λi _ H=>h _ (bp H)
  rw[X,zg (by decide)];exact⟨_,_,h2,ow,ek 6⟩
 have U:∀n∈bK s.2.2.1 s.t.t.t,LE.le (α:=Int) 0 (ac e n):=by
  intro n v;obtain⟨j,hj,rfl⟩:=gD v;exact h1 j hj hj
 have m:LE.le (α:=Int) 0 (ac e s.2.2.1):=U _ (by unfold bK;split<;>simp);have X:pb e s.2.2.1 s.t.t.t s.2.1=if(Q0 (GE.ge (α:=Int) (ac e s.2.1) 0)||s.2.2.1==s.t.t.t)=Q3 then 7 else if ei e (bK s.2.2.1 s.t.t.t)=Q3 then 10 else 0:=by
  unfold pb;rw[ze U]
 have h6:=W.few;obtain⟨z,A⟩:=MS (db:=e) (ns:=bK s.2.2.1 s.t.t.t) ow (λx hx=>(L x hx).short.rf|>λh=>by omega) ow;have hT:pg (an e s.2.2.1):=L3 W m;have t8:=hT.n8;have S:=hw.sh.names.1;have o:(bif Q0 (GE.ge (α:=Int) (ac e s.2.1) 0)then Q3 else s.2.2.1==s.t.t.t)=(Q0 (GE.ge (α:=Int) (ac e s.2.1) 0)||s.2.2.1==s.t.t.t):=by cases Q0 (GE.ge (α:=Int) (ac e s.2.1) 0)<;>rfl
 rw[X];by_cases q:(Q0 (GE.ge (α:=Int) (ac e s.2.1) 0)||s.2.2.1==s.t.t.t)=Q3
 .rw[ze q,zg (by decide)];refine⟨rN 7,_,h2.ends (z6.of ?_),ow,ek 7⟩;simp only[dW,rE,Q8,zG,dP,o,q,zh,zE,zp]
 rw[zg q];have q:(Q0 (GE.ge (α:=Int) (ac e s.2.1) 0)||s.2.2.1==s.t.t.t)=Q4:=by simpa using q
 by_cases g:ei e (bK s.2.2.1 s.t.t.t)=Q3
 .rw[ze g,zg (by decide)];refine⟨rN 10,_,h2.ends (z6.of ?_),ow,ek 10⟩;simp only[dW,rE,Q8,zG,dP,o,q,z,A,g,zh,zE,zp]
 rw[zg g,ze rfl];have g:ei e (bK s.2.2.1 s.t.t.t)=Q4:=by simpa using g
 obtain⟨F,y⟩:=MR (t:=an e s.2.2.1) (names:=s.2.2.2.1) ow ow;have F:oM (getD e (toNat (ac e s.2.2.1)) (zi zk)).1.2.1 s.2.2.2.1=Q3:=F;have y:rJ (getD e (toNat (ac e s.2.2.1)) (zi zk)).1.2.1 s.2.2.2.1=(ite (gq (an e s.2.2.1) s.2.2.2.1=0) (jr (an e s.2.2.1) s.2.2.2.1) [],gq (an e s.2.2.1) s.2.2.2.1):=y;unfold cI;by_cases o1:(s.1==dj)=Q3
 .rw[ze o1];unfold tA;by_cases p:gq (an e s.2.2.1) s.2.2.2.1=0
  .rw[ze p];obtain⟨T,q2⟩:=Hr p;obtain⟨r,k,I,e2,J⟩:=zvZ hs G (t:=an e s.2.2.1) (a:=s.1) (b:=s.2.2.1) (c:=s.t.t.t) (d:=s.2.1) (l:=jr (an e s.2.2.1) s.2.2.2.1) (on:=0) (by unfold jr;rw[cz];omega) q2 (by
    intro x hx;obtain⟨n,v,rfl⟩:=aE.1 hx;exact rx (T n v))
   rw[VX];refine⟨r,_,h2.ends ((zN.of ?_).ends I),ow,J⟩;rw[ze p,p]at y;simp only[dW,rE,Q8,zG,dP,o,q,z,A,g,dT m,o1,F,y,zh,zE,zp,iz];rfl
  .rw[zg p,A4 p];refine⟨_,_,h2.ends (z6.of ?_),ow,ek _⟩;rw[zg p]at y;have D:(gq (an e s.2.2.1) s.2.2.2.1!=0)=Q3:=by simpa using p
   simp only[dW,rE,Q8,zG,dP,o,q,z,A,g,dT m,o1,F,y,D,zh,zE,zp]
 rw[zg o1];by_cases o2:(s.1==gj)=Q3
 .rw[ze o2];have hr:=m2 (bF o2);have M:s.t.t.t≠[]:=by intro k;rw[k]at hr;cases hr
  have h3:ep e s.t.t.t=an e s.t.t.t:=by unfold ep;rw[zg M]
  have E:LE.le (α:=Int) 0 (ac e s.t.t.t):=U _ (by unfold bK;rw[zg (by simpa using M)];simp);have u8:=(L3 W E).n8;have h0:(an e s.2.2.1).t.1.length<=1000:=by have:=(L _ (nt m)).short.rf;unfold an;omega
  have g1:eP (getD e (toNat (ac e s.2.2.1)) (zi zk)).1.2.1 s.t.2.1=Q3:=oW (by show(an e s.2.2.1).2.1.length<=_;omega);have g2:gw (getD e (toNat (ac e s.2.2.1)) (zi zk)).1.2.1 s.t.2.1=zV (an e s.2.2.1) s.t.2.1:=r7 (by show(an e s.2.2.1).2.1.length<=_;omega);rw[h3];unfold fV;by_cases O:LT.lt (α:=Int) (zV (an e s.2.2.1) s.t.2.1) 0
  .rw[ze O,A4 (by decide)];refine⟨rN 4,_,h2.ends (z6.of ?_),ow,ek 4⟩;simp only[dW,rE,Q8,zG,dP,o,q,z,A,g,dT m,dT E,o1,o2,g1,g2,zy O,zh,zE,zp]
  .rw[zg O];obtain⟨r,k,I,e2,J⟩:=zv0 hs G (t:=an e s.2.2.1) (u:=an e s.t.t.t) (a:=s.1) (b:=s.2.2.1) (c:=s.t.t.t) (d:=s.2.1) (k0:=0) (on:=zV (an e s.2.2.1) s.t.2.1) ow ow h0;refine⟨r,_,h2.ends ((zN.of ?_).ends I),ow,J⟩;simp only[dW,rE,Q8,zG,dP,o,q,z,A,g,dT m,dT E,o1,o2,g1,g2,ae O,zh,zE,zp];rfl
 rw[zg o2];have o3:(s.1==lm)=Q3:=by
  rcases Z with k|k|k
  .rw[k]at o1;exact zC rfl o1
  .rw[k]at o2;exact zC rfl o2
  .rw[k];rfl
 rw[ze o3];have Y:=m3 (bF o3);unfold qf;by_cases p:gq (an e s.2.2.1) s.2.2.2.1=0
 .rw[ze p];obtain⟨T,q2⟩:=Hr p;rw[ze p,p]at y;obtain⟨n0,w,v⟩:∃n0 w,s.2.2.2.1=[n0,w]:=by
   match s.2.2.2.1,Y with
   |[a,b],_=>exact⟨a,b,rfl⟩
  have i0:zK (zV (an e s.2.2.1) n0) (Io (getD e (toNat (ac e s.2.2.1)) (zi zk)).1.2.1)=Q3:=rx (T n0 (by rw[v];simp));have i1:zK (zV (an e s.2.2.1) w) (Io (getD e (toNat (ac e s.2.2.1)) (zi zk)).1.2.1)=Q3:=rx (T w (by rw[v];simp));have x0:(jr (an e s.2.2.1) s.2.2.2.1).getD (toNat 0) (zi zj)=zV (an e s.2.2.1) n0:=by rw[v];rfl
  have x1:(jr (an e s.2.2.1) s.2.2.2.1).getD (toNat 1) (zi zj)=zV (an e s.2.2.1) w:=by rw[v];rfl
  have xl:(jr (an e s.2.2.1) s.2.2.2.1).length=2:=by rw[v];rfl
  have b0:zK 0 2=Q3:=rfl;have b1:zK 1 2=Q3:=rfl;have y1:(eC (an e s.2.2.1) s.2.2.2.1).getD 1 (zi zl)=getD (getD e (toNat (ac e s.2.2.1)) (zi zk)).1.2.1 (toNat (zV (an e s.2.2.1) w)) (zi zl):=by rw[v];rfl
  have y0:(eC (an e s.2.2.1) s.2.2.2.1).getD 0 (zi zl)=getD (getD e (toNat (ac e s.2.2.1)) (zi zk)).1.2.1 (toNat (zV (an e s.2.2.1) n0)) (zi zl):=by rw[v];rfl
  unfold xE;rw[y1,y0];by_cases P:(getD (getD e (toNat (ac e s.2.2.1)) (zi zk)).1.2.1 (toNat (zV (an e s.2.2.1) w)) (zi zl)).2.1=(1:Int)
  .rw[ze P];obtain⟨r,I,J⟩:=zrU hs G (s.1,s.2.2.1,s.t.t.t,s.2.1,[((getD (getD e (toNat (ac e s.2.2.1)) (zi zk)).1.2.1 (toNat (zV (an e s.2.2.1) n0)) (zi zl)).1,(getD (getD e (toNat (ac e s.2.2.1)) (zi zk)).1.2.1 (toNat (zV (an e s.2.2.1) n0)) (zi zl)).2.1,Q3),((getD (getD e (toNat (ac e s.2.2.1)) (zi zk)).1.2.1 (toNat (zV (an e s.2.2.1) w)) (zi zl)).1,(getD (getD e (toNat (ac e s.2.2.1)) (zi zk)).1.2.1 (toNat (zV (an e s.2.2.1) w)) (zi zl)).2.1,Q4)],0,s.t.t.1,jr (an e s.2.2.1) s.2.2.2.1,0,()) rfl sw;have B:((getD (getD e (toNat (ac e s.2.2.1)) (zi zk)).1.2.1 (toNat (zV (an e s.2.2.1) w)) (zi zl)).2.1!=1)=Q4:=by rw[P];rfl
   refine⟨r,_,h2.ends ((zN.of ?_).ends I),sg,J⟩;simp only[dW,rE,Q8,zG,dP,o,q,z,A,g,dT m,o1,o2,o3,F,y,x0,x1,xl,b0,b1,i0,i1,B,zh,zE,zp,iz];rfl
  .rw[zg P,A4 (by decide)];have B:((getD (getD e (toNat (ac e s.2.2.1)) (zi zk)).1.2.1 (toNat (zV (an e s.2.2.1) w)) (zi zl)).2.1!=1)=Q3:=by simpa using P
   refine⟨rN 5,_,h2.ends (z6.of ?_),ow,ek 5⟩;simp only[dW,rE,Q8,zG,dP,o,q,z,A,g,dT m,o1,o2,o3,F,y,x0,x1,xl,b0,b1,i0,i1,B,zh,zE,zp,iz]
 .rw[zg p,A4 p];refine⟨_,_,h2.ends (z6.of ?_),ow,ek _⟩;rw[zg p]at y;have D:(gq (an e s.2.2.1) s.2.2.2.1!=0)=Q3:=by simpa using p
  simp only[dW,rE,Q8,zG,dP,o,q,z,A,g,dT m,o1,o2,o3,F,y,D,zh,zE,zp]
theorem Zk(c:∀x∈d,KB x)(v:wK s):DT d s=Q1 ((ba d s).2,(ba d s).1,()):=by
 have j:∀x∈d,gL x:=λx H=>(c x H).short
 obtain⟨e,z,A⟩:=JD c;have w:Eg d=Q3:=by unfold Eg;rw[z];rfl
 have y:JC d=e:=by unfold JC;rw[z];rfl
 have o:(T3 d s).val=Q1 (.inr (rN 1))->ba d s=(1,jT)->DT d s=Q1 ((ba d s).2,(ba d s).1,()):=by
  intro h E;rw[E];exact zO h (ek 1)
 have F:∀p:ap,jU p=Q3/\lG p=bK p.2.1 p.2.2.1:=λp=>⟨ta p,vF p⟩
 by_cases g:jQ s.1
 .obtain⟨t,h⟩:=PM v g;have m:iP s=Q3:=by unfold iP;rw[h];rfl
  have n:lL s=(t,eF s):=by unfold lL;rw[h];rfl
  have i:(cond (!s.1==dj) (cond (!s.1==gj) (!s.1==lm) Q4) Q4)=Q4:=by
   rcases g with k|k|k<;>rw[k]<;>rfl
  by_cases a:eF s=Q3
  .by_cases q:e=0
   .have B:=A.1 q;have G:=(je j).2 B;obtain⟨r,k,C,M,D⟩:=of7 B v a g G c ([],[],[],[],0,[],0,0,[],[],0,());refine zB ?_ C ow D;simp only[T3,rE,Q8,zm,aQ,m,n,w,y,a,q,i,F,ci,aA,zh,iz,zE,zp];rfl
   .refine o ?_ ?_
    .have u:(e !=0)=Q3:=by simpa using q
     simp only[T3,rE,Q8,zm,aQ,m,n,w,y,a,u,ci,aA,ax,zh]
    .unfold ba;rw[zg];rintro⟨_,_,h⟩;exact q (A.2 ((je j).1 h))
  .have l:eF s=Q4:=by simpa using a
   refine o ?_ ?_
   .simp only[T3,rE,Q8,zm,aQ,m,n,l,da,ax,zh]
   .unfold ba;rw[zg];rintro⟨_,h,_⟩;exact a h
 .obtain⟨t,b,h⟩:=PL v;have m:iP s=Q3:=by unfold iP;rw[h];rfl
  have n:lL s=(t,b):=by unfold lL;rw[h];rfl
  have i:(cond (!s.1==dj) (cond (!s.1==gj) (!s.1==lm) Q4) Q4)=Q3:=by
   have I:(s.1==dj)=Q4:=by simpa using λk=>g (.inl k)
   have J:(s.1==gj)=Q4:=by simpa using λk=>g (.inr (.inl k))
   have L:(s.1==lm)=Q4:=by simpa using λk=>g (.inr (.inr k))
   rw[I,J,L];rfl
  refine o ?_ ?_
  .simp only[T3,rE,Q8,zm,aQ,m,n,w,y,i,zh];cases b<;>cases(e !=0)<;>rfl
  .unfold ba;rw[zg λh=>g h.1]
theorem eY{α:Type}(p:α->Bool):∀(l:List α)(i:Nat),(ab p l i=-1/\∀x∈l,p x=Q4)\/∃(k:Nat)(h:k<Io l),ab p l i=((i+k:Nat):Int)/\p l[k]=Q3/\∀x∈l.take k,p x=Q4
 |[],_=>.inl ⟨rfl,sw⟩
 | x::r,i=>by
  unfold ab;split
  next h=>exact .inr ⟨0,sw,rfl,h,sw⟩
  .rename_i h;have d:p x=Q4:=by simpa using h
   rcases eY p r (i+1)with⟨b,c⟩|⟨k,g,b,c,e⟩
   .refine .inl ⟨b,λy a=>?_⟩;rcases cf.1 a with rfl|a
    .exact d
    .exact c y a
   .refine .inr ⟨k+1,by simpa using g,by rw[b];congr 1;omega,by simpa using c,λy a=>?_⟩;rw[List.take_succ_cons]at a;rcases cf.1 a with rfl|a
    .exact d
    .exact e y a
theorem O1{i:Nat}(h:ac d n=(i:Int))(b:d.getD i (zi zk)=x):x.1.1=n:=by
 rcases eY (λy:ah=>y.1.1==n) d 0 with⟨q,_⟩|⟨k,c,e,g,_⟩
 .exfalso;have a:ab (λy:ah=>y.1.1==n) d 0=(i:Int):=h;rw[q]at a;omega
 .have a:ab (λy:ah=>y.1.1==n) d 0=(i:Int):=h;rw[e]at a;obtain rfl:k=i:=by omega
  rw[aZ,zZ c,bM]at b;subst b;simpa using g
def Ou(p:zH->Bool)(t:aq):aq:=(t.1,t.2.1,t.2.2.1,t.2.2.2.1,t.t.1.filter (λf:bV=>p f.2),t.t.2)
def jh(p:zH->Bool)(x:ah):ah:=(Ou p x.1,x.2)
variable {p:zH->Bool}
theorem RJ(h:dX t=Q3):dX (Ou p t)=Q3:=by have h:=(lR t).1 h;exact(lR _).2 ⟨h.name,h.n1,h.n8,h.cols,h.uniq,λf x=>h.refs f (List.mem_filter.1 x).1,h.key,h.nn,h.chk⟩
theorem G8{t:aq}{p:zH->Bool}{o:zw}:∀(r:zw)(i:Int),eN (Ou p t) o r i=eN t o r i
 |[],_=>by rw[eN,eN];rfl
 |x::r,i=>by rw[eN,eN,G8 r];rfl
theorem L4{t:aq}{p:zH->Bool}{o:zw}:∀(r:zw)(i:Int),gH (Ou p t) o r i=gH t o r i
 |[],_=>by rw[gH,gH,G8]
 |x::r,i=>by rw[gH,gH,L4 r]
theorem WZ(h:dX t=Q3)(r:zw):cy (Ou p t) r=cy t r:=by unfold cy;rw[h,RJ h,L4];rfl
theorem ed.cut(h:ed x):ed (jh p x) where
 may:=RJ h.may
 few:=h.few
 fits:=λr a=>by
  show cy (Ou p x.1) r=0;rw[WZ h.may];exact h.fits r a
 key:=h.key
 uniq:=h.uniq
 rise:=h.rise
theorem Yt(e:jc d){y:ah}(k:x∈d)(l:y∈d)(h:x.1.1=y.1.1):x=y:=by
 have a:d.Pairwise λx y:ah=>Op.bytesLess x.1.1 y.1.1=Q3:=(wh (R:=λx y:ah=>Op.bytesLess x.1.1 y.1.1=Q3) g0).1 e.names
 obtain⟨i,b,rfl⟩:=gD k;obtain⟨j,c,rfl⟩:=gD l;rcases Nat.lt_trichotomy i j with g|g|g
 .have:=List.pairwise_iff_getElem.1 a i j b c g;rw[h,cm]at this;cases this
 .subst g;rfl
 .have:=List.pairwise_iff_getElem.1 a j i c b g;rw[h,cm]at this;cases this
theorem jv(h:LE.le (α:=Int) 0 (ac d n)):aG d n∈d/\(aG d n).1.1=n:=
 ⟨nt h,O1 (i:=toNat (ac d n)) (Int.toNat_of_nonneg h).symm rfl⟩
theorem jc.src(b:jc d)(q:Io e<=12)(s:e.Pairwise λx y:ah=>Op.bytesLess x.1.1 y.1.1=Q3)(a:∀y∈e,∃x∈d,y=jh p x)(u:∀n,p n=Q3->LE.le (α:=Int) 0 (ac e n)):jc e where
 few:=q
 names:=(wh (R:=λx y:ah=>Op.bytesLess x.1.1 y.1.1=Q3) g0).2 s
 rels:=λy j=>by
  obtain⟨x,i,rfl⟩:=a y j;exact(b.rels x i).cut
 bound:=λy j f v=>by
  obtain⟨x,i,rfl⟩:=a y j;obtain⟨c,g⟩:=List.mem_filter.1 v;have m:=u f.2 g;refine⟨m,λl w A=>?_⟩;obtain⟨C,D⟩:=b.bound x i f c;have E:=D l w A;obtain⟨F,o⟩:=jv m;obtain⟨z,B,h⟩:=a _ F;obtain⟨G,H⟩:=jv C;have k:z=aG d f.2:=Yt b B G (by rw[H];rw[h]at o;exact o);rw[h,k];exact E
structure iX (ns:List zH) (t t':aq):Prop where
 cols:t'.2.1=t.2.1
 key:t'.2.2.1=t.2.2.1
 refs:∀f:bV,f.2∈ns->(f∈t'.t.1↔f∈t.t.1)
section
variable {ns:List zH} {t t':Sem ak}
theorem iX.place(h:iX ns t t'):zV t'=zV t:=funext λn=>by unfold zV;rw[h.cols]
theorem iX.plc(h:iX ns t t')(l:List zH):gq t' l=gq t l:=by unfold gq;rw[h.place]
theorem iX.ix(h:iX ns t t')(l:List zH):jr t' l=jr t l:=by unfold jr;rw[h.place]
theorem iX.cs(h:iX ns t t')(l:List zH):eC t' l=eC t l:=by unfold eC;rw[h.place,h.cols]
theorem iX.cpy(h:iX ns t t')(l:List zH):tA t' l=tA t l:=by unfold tA;rw[h.plc,h.ix,h.key]
theorem iX.grp(h:iX ns t t')(l:List zH):qf t' l=qf t l/\xE t' l=xE t l:=by unfold qf xE;rw[h.plc,h.cs];exact⟨rfl,rfl⟩
theorem iX.join(h:iX ns t t'){x u:aq}(a:iX ns x u){n w:zH}(b:w∈ns):fV t' u n w=fV t x n w:=by
 have:jp t'.t.1 (zV t n,w)=jp t.t.1 (zV t n,w):=by
  rw[gU,oD,oD];exact h.refs (zV t n,w) b
 unfold fV;rw[h.place,this,h.cols,a.cols]
theorem iX.oth(h:iX ns t t')(n:Nat):fX t' n=fX t n:=by unfold fX;rw[h.key,h.cols]
end
abbrev cD(s:zJ):zH:=s.t.t.t
theorem Rk(a:x∈d):LE.le (α:=Int) 0 (ac d x.1.1):=by
 rcases eY (λy:ah=>y.1.1==x.1.1) d 0 with⟨_,h⟩|⟨k,_,h,_⟩
 .have:=h x a;simp at this
 .have h:ac d x.1.1=((0+k:Nat):Int):=h;rw[h];exact Int.natCast_nonneg _
theorem Zd(l:(ba d s).1=0)(D:ll e=(0:Int))(u:∀n∈bK s.2.2.1 (cD s),LE.le (α:=Int) 0 (ac e n)/\iX (bK s.2.2.1 (cD s)) (an d n) (an e n))
  (c:∀x∈e,x.1.1∈bK s.2.2.1 (cD s)/\∃y∈d,(y:ah).1.1=x.1.1) (F:s.1=gj->cD s≠[]):ba e s=ba d s/\ba d s=cI d s:=by
 unfold ba at l;split at l
 case isFalse=>cases l
 rename_i v;split at l
 case isFalse h=>exact zC l h
 rename_i k;have g:ba d s=cI d s:=by unfold ba;rw[ze v,ze k]
 refine⟨?_,g⟩;rw[g];have m:pb e s.2.2.1 (cD s) s.2.1=0:=by
  unfold pb at k|-;split at k
  case isFalse=>cases k
  rw[ze λn E=>(u n E).1];split at k
  case isTrue=>cases k
  rename_i B;have C:¬(Q0 (GE.ge (α:=Int) (ac e s.2.1) 0)||s.2.2.1==cD s)=Q3:=by
   intro i;apply B;rcases(nc _ _).mp i with i|i
   .have p:LE.le (α:=Int) 0 (ac e s.2.1):=mf i;obtain⟨I,J⟩:=jv p;obtain⟨_,y,H,a⟩:=c _ I;have:=Rk H;rw[a,J]at this;rw[nc];exact .inl (zy this)
   .rw[nc];exact .inr i
  rw[zg C,zg];unfold ei;intro i;obtain⟨x,G,p⟩:=List.any_eq_true.1 i;rw[(lA _ _).2 (c x G).1]at p;simp at p
 have j:s.2.2.1∈bK s.2.2.1 (cD s):=by unfold bK;split<;>simp
 have b:=(u _ j).2;unfold ba;rw[ze ⟨v.1,v.2.1,D⟩,ze m];unfold cI;by_cases o1:(s.1==dj)=Q3
 .rw[ze o1,ze o1,b.cpy,b.cs,b.ix,b.key]
 rw[zg o1,zg o1];by_cases o2:(s.1==gj)=Q3
 .have w:=F (bF o2);have o:cD s∈bK s.2.2.1 (cD s):=by
   unfold bK;rw[zg (by simpa using w)];simp
  have q:=(u _ o).2;have z:ep e (cD s)=an e (cD s):=by unfold ep;rw[zg w]
  have A:ep d (cD s)=an d (cD s):=by unfold ep;rw[zg w]
  rw[ze o2,ze o2,z,A,b.join q o,b.cols,b.key,b.place,q.cols,q.key,q.oth]
 rw[zg o2,zg o2,(b.grp _).1,(b.grp _).2,b.ix]
theorem Ib{g c b:Bool}(h:(g&&(cond c b Q4))=Q3):b=Q3:=by cases g<;>cases c<;>simp_all
theorem zdg(h:fC s=Q3)(sh:mF s)(G:jQ s.1):
  s.t.1=[]/\s.t.q.1=[]/\s.t.q.2.1=[]/\s.t.t.2.1=[]/\s.t.t.q.1=[]/\s.t.t.q.2.1=eu/\(ite (s.1=gj) (s.2.2.2.1=[]) (s.t.2.1=[]/\cD s=[])):=by
 obtain⟨o,y,z,A,B,C,D,E,F,a,c,d,e⟩:=s;have I:=sh.names.1;have J:=sh.cols.1;have L:=sh.uniques.1;have M:=sh.refs.1;have v:=sh.row;have w:=sh.sets.1;simp only at I J L M v w;rcases G with rfl|rfl|rfl
 .obtain⟨_,i⟩:=eS (s:=(dj,y,z,A,B,C,D,E,F,a,c,d,e)) (g:=_) (b:=_) rfl;rw[i]at h;have h:=Ib h;obtain⟨_,_,p,u,_,j,l,m,n,k,_,x⟩:=(jx sw sg sg sg sg sg).1 h;exact⟨j,l,m,n,k,(za.eta _).symm.trans x,by rw[zg (λh=>by simp at h)];exact⟨p,u⟩⟩
 .obtain⟨_,i⟩:=eS (s:=(gj,y,z,A,B,C,D,E,F,a,c,d,e)) (g:=_) (b:=_) rfl;rw[i]at h;have h:=Ib h;obtain⟨_,_,p,u,H,j,l,m,n,k,_,x⟩:=(jx sg sg sg sg sg sg).1 h;exact⟨j,l,m,n,k,(za.eta _).symm.trans x,by rw[ze rfl];exact H⟩
 .obtain⟨_,i⟩:=eS (s:=(lm,y,z,A,B,C,D,E,F,a,c,d,e)) (g:=_) (b:=_) rfl;rw[i]at h;have h:=Ib h;obtain⟨_,_,p,u,_,j,l,m,n,k,_,x⟩:=(jx sw sg sg sg sg sg).1 h;exact⟨j,l,m,n,k,(za.eta _).symm.trans x,by rw[zg (λh=>by simp at h)];exact⟨p,u⟩⟩
theorem ie(h:¬LT.lt (α:=Int) (zV t n) 0):(getD t.2.1 (toNat (zV t n)) (zi zl)).1=n/\LT.lt (α:=Int) (zV t n) (Io t.2.1):=by
 have e:zV t n=ab (λc:bX=>c.1==n) t.2.1 0:=rfl;rcases eY (λc:bX=>c.1==n) t.2.1 0 with⟨x,_⟩|⟨k,a,x,b,_⟩
 .rw[e,x]at h;exact zC (by decide:(-1:Int)<0) h
 .rw[e,x,er];refine⟨?_,Int.ofNat_lt.2 a⟩;rw[cP _ _ a];exact bF b
def jb(p:ap)(s:zP):zJ:=
 (p.1,p.2.2.2.1.1,p.2.1,if p.1=gj then[]else p.2.2.2.1.2.1.map λc:bX=>c.1,[],
  if p.1=gj then(if LE.le (α:=Int) 0 p.t.2/\LT.lt (α:=Int) p.t.2 (Io (s.getD 0 (zi zk)).1.2.1)then(getD (s.getD 0 (zi zk)).1.2.1 (toNat p.t.2) (zi zl)).1 else[])else[],
  [],[],p.2.2.2.1.t.2,[],[],eu,p.2.2.1)
theorem qt(h:gq t l=0):∀s∈l,¬LT.lt (α:=Int) (zV t s) 0:=by
 unfold gq at h;split at h
 .assumption
 .cases h
theorem yV{t:aq}:∀{l:List zH},(∀s∈l,¬LT.lt (α:=Int) (zV t s) 0)->(eC t l).map (λc:bX=>c.1)=l
 |[],_=>rfl
 | s::r,h=>by
  show(getD t.2.1 (toNat (zV t s)) (zi zl)).1::(eC t r).map (λc:bX=>c.1)=s::r;rw[(ie (h s sw)).1,yV λx a=>h x (by simp[a])]
theorem iD(x:(iC k h).1=0):k=0/\iC k h=(0,h):=by
 unfold iC at x|-;split at x
 .rename_i a;split at x
  next b=>rw[ze a,ze b];exact⟨a,rfl⟩
  next b=>exact zC x b
 next a=>exact zC x a
theorem UM(x:(cI d s).1=0)(u:jQ s.1)(v:fC s=Q3)(sh:mF s)(p:(e.getD 0 (zi zk)).1.2.1=(an d s.2.2.1).2.1):jb (cI d s).2 e=s:=by
 obtain⟨w,y,z,A,B,C,n⟩:=zdg v sh u;obtain⟨o,L,j,M,O,N,P,S,T,H,I,J,l⟩:=s;simp only at w y z A B C n p;subst w y z A B C;rcases u with rfl|rfl|rfl
 .rw[zg (λh=>by simp at h)]at n;obtain⟨rfl,i⟩:=n;have i:l=[]:=i;subst i;unfold cI at x|-
  dsimp only at x|-
  rw[ze (show((dj:zH)==dj)=Q3 from rfl)]at x|-;obtain⟨c,k⟩:=iD x;rw[k];have g:=qt (by
   unfold tA at c;split at c
   .assumption
   next m=>exact zC c m)
  unfold jb;simp only;rw[zg (λh=>by simp at h),zg (λh=>by simp at h),yV g]
 .rw[ze rfl]at n;subst n;unfold cI at x|-
  dsimp only at x|-
  rw[zg (show¬((gj:zH)==dj)=Q3 by decide),ze (show((gj:zH)==gj)=Q3 from rfl)]at x|-;obtain⟨c,k⟩:=iD x;rw[k];have g:¬LT.lt (α:=Int) (zV (an d j) N) 0:=by
   intro h;unfold fV at c;rw[ze h]at c;cases c
  obtain⟨F,G⟩:=ie g;unfold jb;simp only;rw[ze trivial,ze trivial,p,ze ⟨Int.not_lt.1 g,G⟩,F]
 .rw[zg (λh=>by simp at h)]at n;obtain⟨rfl,i⟩:=n;have i:l=[]:=i;subst i;have q:=jP v rfl;simp only at q;unfold cI at x|-
  dsimp only at x|-
  rw[zg (show¬((lm:zH)==dj)=Q3 by decide),zg (show¬((lm:zH)==gj)=Q3 by decide),ze (show((lm:zH)==lm)=Q3 from rfl)]at x|-;obtain⟨c,k⟩:=iD x;rw[k];have g:=qt (by
   unfold qf at c;split at c
   .assumption
   next m=>exact zC c m)
  match M,q,g with
  |[a,b],_,g=>
  unfold jb;simp only;rw[zg (λh=>by simp at h),zg (λh=>by simp at h)];have D:=(ie (g a sw)).1;have E:=(ie (g b sw)).1;show(lm,L,j,[(getD (an d j).2.1 (toNat (zV (an d j) a)) (zi zl)).1,(getD (an d j).2.1 (toNat (zV (an d j) b)) (zi zl)).1],_)=_;rw[D,E]
end Cad
