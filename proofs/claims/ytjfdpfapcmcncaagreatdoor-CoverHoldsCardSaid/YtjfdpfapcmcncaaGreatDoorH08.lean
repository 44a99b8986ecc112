/- The library's functions. -/
import Derived.Test.YtjfdpfapcmcncaaGreatDoorH06
import Derived.Test.YtjfdpfapcmcncaaGreatDoorH07
namespace Cad
open Go Go.Proofs Go.RowKit Go.Lib
open List renaming length→Io,drop→Qh,take→Qg
open IntKind renaming wrap→Γ,i64→Δ
open AV renaming agg→Qd
open AO renaming box→Qa
open Sh renaming bool→Q7,str→Q6,expr→Q5
open Bool renaming false→Q4,true→Q3
open Option renaming none→Q2,some→Q1
open Decidable renaming decide→Q0
open Int (toNat)
open Tr (chk br)
open AV (nils agg tup ptr kb str sl)
theorem my.below{w o:World}(h:Below w.heap.size w o):my w o:=
 ⟨h.size,h.os,h.output,h.tape,λa u=>Ck (h.block a.block u)⟩
theorem ek{E:bY}{C:fg}{w H:World}{U:Nat->Prop}{r:AV}{v:Value}{F:List AO}{ρ:Nat->Option Value}(z:jK C w U ρ (λj=>F.getD j .dead))(D:∀id,Io F<=id->ρ id=Q2)
  (I:∀id v,C.ρ0 id=Q1 v->ρ id=Q1 v) (u:Wd E.gl C w U) (B:Below w.heap.size w H) (M:Rv H U ρ r v):RO E C (λS h=>(S,h)=(r,F)) (.returned v) H:=by
 have G:∀b,b<w.heap.size->H.heap[b]?=w.heap[b]?:=B.block;refine⟨v,r,F,U,ρ,rfl,rfl,M,⟨λid=>?_,z.inj,z.blk⟩,D,I,⟨u.ext.trans (my.below B),λb o L=>?_,λb O=>g8 (u.ub b O) B.size,u.u1,u.u2,λg=>?_⟩⟩
 ·exact(z.ob id).mono B.size (λb o _=>G b o) (λ_ _ h=>h) (λ_ _ h=>h) (λb J=>⟨G b ((z.ob id).inU J).2,((z.ob id).inU J).1⟩)
 ·rw[G b (g8 o u.ext.sz)];exact u.same b o L
 ·exact(u.gl g).mono B.size (λb o _=>G b o) (λ_ _ h=>h) (λ_ _ h=>h)
noncomputable def zg4:bY:=Sz.aut 176 Tryz.f176 1
theorem zoM:zO Sz.P 176 Tryz.f176 1:=bU kw
theorem Vf:zw zg4:=iv Lk zoM
def DN(c:Int):Bool:=bif Q0 (c<32)then Q3 else Q0 (c>126)
theorem zrn(c:Int):((bp (List.replicate 1 Q2) (fA Sz Tryz.f176 (List.replicate 1 Q2))) [.int .i32 c] (λ_=>.dead) 0).val=Q1 {val:=.bool (DN c)}:=kw
theorem ziC(w:World)(U:Nat->Prop)(D:tt Sz.gl w U)(F:∀b,U b->b<w.heap.size):PredGrows Tryz.prog 176 #[] (λr=>DN r) w:=by
 intro W x J B;have G:FK 176 (bp (List.replicate 1 Q2) (fA Sz Tryz.f176 (List.replicate 1 Q2))):=ch _ Lk zoM;have H:dB W U (λ_=>Q2) [.int .i32 (x:Int)] [.int .i32 (x:Int)]:=by
  refine⟨rfl,λj c v C z=>?_⟩;cases j with
  | zero=>
   simp at C z;subst C;subst z;refine .int _ _ ⟨?_,?_⟩
   ·show(-2147483648:Int)<=x;omega
   ·show(x:Int)<=2147483647;omega
  |succ j=>simp at C
 have:=(G.calls W U (λ_=>Q2) (λ_=>.dead) 0 [.int .i32 (x:Int)] [.int .i32 (x:Int)] _ [] (zrn x) H (λb u=>g8 (F b u) B.size) (λg=>(D g).mono B.size (λb u _=>B.block b u) (λ_ _ h=>h) (λ_ _ h=>h)) ⟨sw,sw⟩ (by simp[AV.idsL,AV.ids]) sw sw).1;refine this.mono ?_;rintro e L ⟨v,I,M,rfl,o⟩;have z:=o.val;cases z;exact⟨rfl,⟨o.ext.os,o.ext.tape,o.ext.out,o.ext.sz,λb u=>o.same b u sw⟩⟩
def qq(s:zD):Int:=Lib.idxFunc (λr=>DN r) Q3 ⟨s.toArray⟩
def G36:iV [Q1 .str,Q2]:=λx h=>match x,h with
 |(s,.clo (.func 176) [] [],_),[]=>.ok (.int .i64 (qq s),[])
 |_,_=>.err
theorem zq3:Go.Proofs.Enters Tryz.prog 176:=by
  cases h:Tryz.f176.body with
  | none => have:Tryz.f176.body.isNone=false:=by kernel_rfl
            rw[h]at this;cases this
  |some c=>exact Go.Proofs.enters_of (fn:=Tryz.f176) kw kw h
theorem zk4:FK 177 (bp [Q1 .str,Q2] G36):=by
 refine fh (E:=zg4) ⟨Tryz.f177,kw,kw,kw⟩ λx h0 Y B=>?_
 unfold G36 at B;split at B
 ·rename_i s u;simp only[Tr.val_ok,bH]at B;subst B;intro C w U ρ D _ o O h I F;have X:=o.len
  match D,X,o with
  | [Z,v2],_,o=>
   have L:=o.rv 0 (.str s) Z rfl rfl;have M:=o.rv 1 (.clo (.func 176) [] []) v2 rfl rfl;cases L with
   |str _ hs=>
   cases M with
   |clo _ _ _ vf vc W T _ _=>
   have H:vf=[]:=AW W.symm;have G:vc=[]:=AW T.symm;subst H;subst G;have:=Tryz.strings_IndexFunc_grows 176 #[] zq3 (λr=>DN r) ⟨s.toArray⟩ w (ziC w U F.gl F.ub);refine this.mono ?_;rintro e w' ⟨rfl,S⟩;refine ek O h I F S (.int _ _ ?_);have z:=Lib.idxFunc_range (λr=>DN r) Q3 ⟨s.toArray⟩;have J:(⟨s.toArray⟩:ByteArray).size=Io s:=by simp[ByteArray.size]
   have hm:aF=9223372036854775807:=rfl;rw[J]at z;change qq s=-1\/(0<=qq s/\qq s<Io s)at z;refine⟨?_,?_⟩
   ·show(-9223372036854775808:Int)<=_;omega
   ·show _<=(9223372036854775807:Int);omega
 ·simp at B
noncomputable def uX:bY:=zg4.add 177 (bp [Q1 .str,Q2] G36)
theorem kI:zw uX:=Vf.add zk4
open Go Go.Proofs
abbrev TS:=Sem Q6
abbrev LX:=List (Sem Q5)
abbrev LC:=List (Sem zj)
abbrev LS:=List (Sem Q6)
abbrev LV:=List (Sem ze)
abbrev LI:=List (Sem zg)
abbrev LF:=List (Sem zp)
abbrev V:=Sem ze
def aR(h:Sem ze):Sem Q7:=if(h.1==0)=Q3 then if(h.2.1!=0)=Q3 then Q4 else h.2.2==[]else if(h.1==1)=Q3 then h.2.2==[]else if(h.1==2)=Q3 then bif h.2.1==0 then bif Q0 ((↑(Io h.2.2):Int)<=40)then Q0 (qq h.2.2<0)else Q4 else Q4 else if(h.1==3)=Q3 then bif h.2.1==0 then h.2.2==[]else bif h.2.1==1 then h.2.2==[]else Q4 else Q4
theorem zoC:zO uX.P 129 Tryz.f129 1:=bU kw
theorem zrd(h:Sem ze):rn uX 0 (λ_=>{ }) Tryz.f129 [zC ze h] []=br (h.1==0) (br (h.2.1!=0) (Tr.ok (zF.ret (kb Q4) [])) (Tr.ok (zF.ret (AV.bool (h.2.2==[])) []))) (br (h.1==1) (Tr.ok (zF.ret (AV.bool (h.2.2==[])) [])) (br (h.1==2) (Tr.ok (zF.ret (AV.bool (cond (h.2.1==0) (cond (Q0 ((↑(Io h.2.2):Int)<=40)) (Q0 (qq h.2.2<0)) Q4) Q4)) [])) (br (h.1==3) (Tr.ok (zF.ret (AV.bool (cond (h.2.1==0) (h.2.2==[]) (cond (h.2.1==1) (h.2.2==[]) Q4))) [])) (Tr.ok (zF.ret (kb Q4) []))))):=kw
def F21:ac:=aH [ze] [Q7] λx=>(aR x.1,())
theorem zkU:FK 129 F21:=by
 refine ag zoC λx C h=>?_
 refine aZ kI zoC (λid _=>h id) (zrd x.1) ?_;simp only[Tr.val,aR];repeat' split
 all_goals rfl
def aY(h:Sem zg):Sem ze:=if(h==0)=Q3 then(0,0,[])else(3,Γ Δ (h-1),[])
theorem zo5:zO uX.P 343 Tryz.f343 1:=bU kw
theorem zrG(h:Sem zg):rn uX 0 (λ_=>{ }) Tryz.f343 [zC zg h] []=br (h==0) (Tr.ok (zF.ret (Qd [ai 0,ai 0,str []]) [])) (Tr.ok (zF.ret (Qd [ai 3,ai (Γ Δ (h-1)),str []]) [])):=kw
def F57:ac:=aH [zg] [ze] λx=>(aY x.1,())
theorem zlp:FK 343 F57:=by
 refine ag zo5 λx C h=>?_
 refine aZ kI zo5 (λid _=>h id) (zrG x.1) ?_;simp only[Tr.val,aY];repeat' split
 all_goals rfl
noncomputable def zi6:ac:=bp (List.replicate 1 Q2) (fA uX Tryz.f216 (List.replicate 1 Q2))
theorem zeD:FK 216 zi6:=ch _ kI (bU kw)
noncomputable def zi7:ac:=bp (List.replicate 1 Q2) (fA uX Tryz.f217 (List.replicate 1 Q2))
theorem zeE:FK 217 zi7:=ch _ kI (bU kw)
noncomputable def zi8:ac:=bp (List.replicate 1 Q2) (fA uX Tryz.f218 (List.replicate 1 Q2))
theorem zeF:FK 218 zi8:=ch _ kI (bU kw)
noncomputable def mb:=uX.addL [(129,F21),(343,F57),(216,zi6),(217,zi7),(218,zi8)]
theorem jm:zw mb:=kI.addL<|fc zkU<|fc zlp<|fc zeD<|fc zeE<|fc zeF iA
def ao(h:Sem ze):Sem ze:=if(!aR h)=Q3 then(0,0,[])else h
theorem zo9:zO mb.P 170 Tryz.f170 1:=bU kw
theorem zrK(h:Sem ze):rn mb 0 (λ_=>{ }) Tryz.f170 [zC ze h] []=br (!aR h) (Tr.ok (zF.ret (Qd [ai 0,ai 0,str []]) [])) (Tr.ok (zF.ret (Qd [ai h.1,ai h.2.1,str h.2.2]) [])):=kw
def F61:ac:=aH [ze] [ze] λx=>(ao x.1,())
theorem zlu:FK 170 F61:=by
 refine ag zo9 λx C h=>?_
 refine aZ jm zo9 (λid _=>h id) (zrK x.1) ?_;simp only[Tr.val,ao];repeat' split
 all_goals rfl
def ef(h:Sem ze):Sem zg:=if(cond (h.1!=3) Q3 (!aR h))=Q3 then 0 else Γ Δ (1+h.2.1)
theorem zo4:zO mb.P 290 Tryz.f290 1:=bU kw
theorem zrF(h:Sem ze):rn mb 0 (λ_=>{ }) Tryz.f290 [zC ze h] []=br (cond (h.1!=3) Q3 (!aR h)) (Tr.ok (zF.ret (ai 0) [])) (Tr.ok (zF.ret (ai (Γ Δ (1+h.2.1))) [])):=kw
def F56:ac:=aH [ze] [zg] λx=>(ef x.1,())
theorem zlo:FK 290 F56:=by
 refine ag zo4 λx C h=>?_
 refine aZ jm zo4 (λid _=>h id) (zrF x.1) ?_;simp only[Tr.val,ef];repeat' split
 all_goals rfl
def dm(h:Sem Q7):Sem ze:=if h=Q3 then aY 2 else aY 1
theorem zo7:zO mb.P 345 Tryz.f345 1:=bU kw
theorem zrI(h:Sem Q7):rn mb 0 (λ_=>{ }) Tryz.f345 [zC Q7 h] []=br h (Tr.ok (zF.ret (Qd [ai (aY 2).1,ai (aY 2).2.1,str (aY 2).2.2]) [])) (Tr.ok (zF.ret (Qd [ai (aY 1).1,ai (aY 1).2.1,str (aY 1).2.2]) [])):=kw
def F59:ac:=aH [Q7] [ze] λx=>(dm x.1,())
theorem zlr:FK 345 F59:=by
 refine ag zo7 λx C h=>?_
 refine aZ jm zo7 (λid _=>h id) (zrI x.1) ?_;simp only[Tr.val,dm];repeat' split
 all_goals rfl
def pR(o:Sem zg)(h:Sem zg):Sem zg:=if(o !=o)=Q3 then if(h !=h)=Q3 then 0 else -1 else if(h !=h)=Q3 then 1 else if Q0 (o<h)=Q3 then -1 else if Q0 (o>h)=Q3 then 1 else 0
theorem zpc:zO mb.P 172 Tryz.f172 2:=bU kw
theorem zrO(o:Sem zg)(h:Sem zg):rn mb 0 (λ_=>{ }) Tryz.f172 [zC zg o,zC zg h] []=br (o !=o) (br (h !=h) (Tr.ok (zF.ret (ai 0) [])) (Tr.ok (zF.ret (ai (-1)) []))) (br (h !=h) (Tr.ok (zF.ret (ai 1) [])) (br (Q0 (o<h)) (Tr.ok (zF.ret (ai (-1)) [])) (br (Q0 (o>h)) (Tr.ok (zF.ret (ai 1) [])) (Tr.ok (zF.ret (ai 0) []))))):=kw
def F71:ac:=aH [zg,zg] [zg] λx=>(pR x.1 x.2.1,())
theorem zlC:FK 172 F71:=by
 refine ag zpc λx C h=>?_
 refine aZ jm zpc (λid _=>h id) (zrO x.1 x.2.1) ?_;simp only[Tr.val,pR];repeat' split
 all_goals rfl
def jO(o:Sem zg)(h:Sem zg):Sem zg:=if(o !=o)=Q3 then if(h !=h)=Q3 then 0 else -1 else if(h !=h)=Q3 then 1 else if Q0 (o<h)=Q3 then -1 else if Q0 (o>h)=Q3 then 1 else 0
theorem zpe:zO mb.P 173 Tryz.f173 2:=bU kw
theorem zrP(o:Sem zg)(h:Sem zg):rn mb 0 (λ_=>{ }) Tryz.f173 [zC zg o,zC zg h] []=br (o !=o) (br (h !=h) (Tr.ok (zF.ret (ai 0) [])) (Tr.ok (zF.ret (ai (-1)) []))) (br (h !=h) (Tr.ok (zF.ret (ai 1) [])) (br (Q0 (o<h)) (Tr.ok (zF.ret (ai (-1)) [])) (br (Q0 (o>h)) (Tr.ok (zF.ret (ai 1) [])) (Tr.ok (zF.ret (ai 0) []))))):=kw
def F72:ac:=aH [zg,zg] [zg] λx=>(jO x.1 x.2.1,())
theorem zlD:FK 173 F72:=by
 refine ag zpe λx C h=>?_
 refine aZ jm zpe (λid _=>h id) (zrP x.1 x.2.1) ?_;simp only[Tr.val,jO];repeat' split
 all_goals rfl
def mW(o:Sem Q6)(h:Sem Q6):Sem zg:=if(!o==o)=Q3 then if(!h==h)=Q3 then 0 else -1 else if(!h==h)=Q3 then 1 else if Op.bytesLess o h=Q3 then -1 else if(!(Op.bytesLess o h||o==h))=Q3 then 1 else 0
theorem zpf:zO mb.P 174 Tryz.f174 2:=bU kw
theorem zrQ(o:Sem Q6)(h:Sem Q6):rn mb 0 (λ_=>{ }) Tryz.f174 [zC Q6 o,zC Q6 h] []=br (!o==o) (br (!h==h) (Tr.ok (zF.ret (ai 0) [])) (Tr.ok (zF.ret (ai (-1)) []))) (br (!h==h) (Tr.ok (zF.ret (ai 1) [])) (br (Op.bytesLess o h) (Tr.ok (zF.ret (ai (-1)) [])) (br (!(Op.bytesLess o h||o==h)) (Tr.ok (zF.ret (ai 1) [])) (Tr.ok (zF.ret (ai 0) []))))):=kw
def F73:ac:=aH [Q6,Q6] [zg] λx=>(mW x.1 x.2.1,())
theorem zlE:FK 174 F73:=by
 refine ag zpf λx C h=>?_
 refine aZ jm zpf (λid _=>h id) (zrQ x.1 x.2.1) ?_;simp only[Tr.val,mW];repeat' split
 all_goals rfl
noncomputable def kq:=mb.addL [(170,F61),(290,F56),(345,F59),(172,F71),(173,F72),(174,F73)]
theorem fi:zw kq:=jm.addL<|fc zlu<|fc zlo<|fc zlr<|fc zlC<|fc zlD<|fc zlE iA
theorem Ez{E:bY}{C:fg}{k:FuncId}{f:Func}{Q:AV->List AO->Prop}{n n0:Nat}(B:zw E)(D:zO E.P k f n)(z:∀id,n0<=id->C.ρ0 id=Q2){keep:Nat->aM}{o:Nat}
  {u:List Item} {st:St} {t:Tr zF} {l:zF} (G:run E n0 keep f.results.toList o u st=t) (h:t.val=Q1 l) (F:ke E C k Q l):Reach E C k u st Q:=
 dF B D z keep o (by rw[G];exact Tr.sat_of_val h F)
def gC{α:Type}(Φ:α->Prop):Option α->Prop
 |some a=>Φ a
 |none=>False
theorem zI{E:bY}{C:fg}{k:FuncId}{f:Func}{Q:AV->List AO->Prop}{n n0:Nat}(D:zw E)(F:zO E.P k f n)(B:∀id,n0<=id->C.ρ0 id=Q2){keep:Nat->aM}{u:Nat}
  {o:List Item} {st:St} {t:Tr zF} (G:run E n0 keep f.results.toList u o st=t) (h:gC (ke E C k Q) t.val):Reach E C k o st Q:=by
 cases z:t.val with
 |none=>rw[z]at h;exact h.elim
 |some l=>rw[z]at h;exact Ez D F B G z h
def Lu{α β R:Type}(f:β->Nat->α->β⊕R)(h:β->R):List α->Nat->β->R
 |[],_,b=>h b
 | x::r,i,b=>match f b i x with
  |.inl o=>Lu f h r (i+1) o
  |.inr y=>y
def ZL{E:bY}{C:fg}{k:FuncId}{K:List Item}{β R:Type}(st:β->Nat->St)(Q:R->AV->List AO->Prop)(b:β)(i:Nat):β⊕R->Prop
 |.inl h=>∀q,Reach E C k K (st h (i+1)) q->Reach E C k K (st b i) q
 |.inr y=>Reach E C k K (st b i) (Q y)
theorem EA{E:bY}{C:fg}{k:FuncId}{K:List Item}{α β R:Type}(l:List α)(st:β->Nat->St)(f:β->Nat->α->β⊕R)(u:β->R)(Q:R->AV->List AO->Prop)(I:β->Nat->Prop)
  (h:∀b i(H:i<Io l),I b i->ZL (E:=E) (C:=C) (k:=k) (K:=K) st Q b i (f b i l[i])/\∀z,f b i l[i]=.inl z->I z (i+1))
  (o:∀b,I b (Io l)->Reach E C k K (st b (Io l)) (Q (u b))):∀(m i:Nat)(b:β),Io l-i=m->i<=Io l->I b i->Reach E C k K (st b i) (Q (Lu f u (l.drop i) i b))
 | 0,i,b,L,H,F=>by
  have:i=Io l:=by omega
  subst this;rw[jM];exact o b F
 | m+1,i,b,L,H,F=>by
  have B:i<Io l:=by omega
  rw[fk B];obtain⟨D,J⟩:=h b i B F;simp only[Lu];cases G:f b i l[i]with
  | inl z=>
   rw[G]at D;exact D _ (EA l st f u Q I h o m (i+1) z ow ow (J z G))
  | inr y=>
   rw[G]at D;exact D
theorem zE{i n:Nat}(h:i<n):Q0 ((i:Int)<(n:Int))=Q3:=by simpa using h
theorem zB(n:Nat):Q0 ((n:Int)<(n:Int))=Q4:=by simp
theorem zt{i n:Nat}(h:i<n):zJ (i:Int) n=Q3:=by simp[zJ,h]
def FE:List Int->Int
 |[]=>0
 |x::r=>if x !=0 then x else FE r
abbrev zoc:Nat->aM:=λj=>if j=3 then{slots:=[3,6,7,8]}else{ }
abbrev Rf(h:Int)(z:List (Sem zg))(o:Int)(u:Int):St:={tmps:=(tm 18 [(3,ai h),(6,sl (Sh.int IntKind.i64) z),(7,ai o),(8,ai u)]),heap:=[]}
theorem W9:zO kq.P 171 Tryz.f171 1:=bU kw
theorem zrN(k:List (Sem zg)):rn kq 0 zoc Tryz.f171 [sl zg k] []=Tr.ok (zF.head 3 (aj Tryz.f171 3) (Rf 0 k (↑k.length) 0)):=kw
theorem OC(u:Int)(o:List (Sem zg))(z:Int)(h:Int):rh kq 0 zoc Tryz.f171 3 (Rf u o z h)=br (Q0 (h<z)) (chk (zJ h (Io o)) (br (o.getD h.toNat (zi (Sh.int IntKind.i64))!=u) (Tr.ok (zF.ret (ai (o.getD h.toNat (zi (Sh.int IntKind.i64)))) [])) (Tr.ok (zF.head 3 (aj Tryz.f171 3) (Rf u o z (Γ Δ (h+1))))))) (Tr.ok (zF.ret (ai u) [])):=kw
def f70:Unit->Nat->Int->Unit⊕Int:=λ_ _ x=>if x !=0 then .inr x else .inl ()
theorem Vt:∀(l:List Int)(i:Nat),Lu f70 (λ_=>0) l i ()=FE l
 |[],_=>rfl
 | x::r,i=>by
  simp only[Lu,f70,FE];split
  ·rename_i h;split at h<;>simp_all[Vt r (i+1)]
  ·rename_i h;split at h<;>simp_all
def F70:ac:=aH [.sl zg] [zg] λx=>(FE x.1,())
theorem zlB:FK 171 F70:=by
 refine ag W9 λx C z=>?_
 obtain⟨l,u⟩:=x;refine Reach.len 0 zg l rfl λD=>?_
 refine Ez fi W9 (λid _=>z id) (zrN l) rfl ?_
 have:=EA (E:=kq) (C:=C) (k:=171) (K:=aj Tryz.f171 3) l (λ(_:Unit) i=>Rf 0 l (Io l) i) f70 (λ_=>(0:Int)) (λy r h=>aI h [zg] r=Q1 (y,())) (λ_ _=>True)
  (λb i o _=>⟨by
   unfold f70;split
   ·rename_i h;refine zI fi W9 (λid _=>z id) (OC _ _ _ _) ?_;simp only[Tr.val,zE o,zt o,cL l _ o,h,if_true];rfl
   ·rename_i h;intro q B;refine zI fi W9 (λid _=>z id) (OC _ _ _ _) ?_;simp only[Tr.val,zE o,zt o,cL l _ o,h,if_true,zr i ow];exact B,λ_ _=>trivial⟩)
  (λb _=>by
   refine zI fi W9 (λid _=>z id) (OC _ _ _ _) ?_;simp only[Tr.val,zB];rfl) _ 0 () rfl ow trivial
 rw[Vt]at this;exact this
def eV(h:Sem ze)(o:Sem ze):Sem Q7:=bif (ao h).1!=0 then(ao h).1==(ao o).1 else Q4
theorem zo6:zO kq.P 344 Tryz.f344 2:=bU kw
theorem zrH(h:Sem ze)(o:Sem ze):rn kq 0 (λ_=>{ }) Tryz.f344 [zC ze h,zC ze o] []=Tr.ok (zF.ret (AV.bool (cond ((ao h).1!=0) ((ao h).1==(ao o).1) Q4)) []):=kw
def F58:ac:=aH [ze,ze] [Q7] λx=>(eV x.1 x.2.1,())
theorem zlq:FK 344 F58:=by
 refine ag zo6 λx C h=>?_
 refine aZ fi zo6 (λid _=>h id) (zrH x.1 x.2.1) ?_;simp only[Tr.val,eV];repeat' split
 all_goals rfl
def A8(h:Sem ze)(o:Sem ze):Sem ze:=if(cond (ef h==1) Q3 (ef o==1))=Q3 then aY 1 else if(cond (ef h==2) (ef o==2) Q4)=Q3 then aY 2 else aY 0
theorem zoP:zO kq.P 317 Tryz.f317 2:=bU kw
theorem zrp(h:Sem ze)(o:Sem ze):rn kq 0 (λ_=>{ }) Tryz.f317 [zC ze h,zC ze o] []=br (cond (ef h==1) Q3 (ef o==1)) (Tr.ok (zF.ret (Qd [ai (aY 1).1,ai (aY 1).2.1,str (aY 1).2.2]) [])) (br (cond (ef h==2) (ef o==2) Q4) (Tr.ok (zF.ret (Qd [ai (aY 2).1,ai (aY 2).2.1,str (aY 2).2.2]) [])) (Tr.ok (zF.ret (Qd [ai (aY 0).1,ai (aY 0).2.1,str (aY 0).2.2]) []))):=kw
def F38:ac:=aH [ze,ze] [ze] λx=>(A8 x.1 x.2.1,())
theorem zk6:FK 317 F38:=by
 refine ag zoP λx C h=>?_
 refine aZ fi zoP (λid _=>h id) (zrp x.1 x.2.1) ?_;simp only[Tr.val,A8];repeat' split
 all_goals rfl
def YH(h:Sem ze)(o:Sem ze):Sem ze:=if(cond (ef h==2) Q3 (ef o==2))=Q3 then aY 2 else if(cond (ef h==1) (ef o==1) Q4)=Q3 then aY 1 else aY 0
theorem zoQ:zO kq.P 318 Tryz.f318 2:=bU kw
theorem zrq(h:Sem ze)(o:Sem ze):rn kq 0 (λ_=>{ }) Tryz.f318 [zC ze h,zC ze o] []=br (cond (ef h==2) Q3 (ef o==2)) (Tr.ok (zF.ret (Qd [ai (aY 2).1,ai (aY 2).2.1,str (aY 2).2.2]) [])) (br (cond (ef h==1) (ef o==1) Q4) (Tr.ok (zF.ret (Qd [ai (aY 1).1,ai (aY 1).2.1,str (aY 1).2.2]) [])) (Tr.ok (zF.ret (Qd [ai (aY 0).1,ai (aY 0).2.1,str (aY 0).2.2]) []))):=kw
def F39:ac:=aH [ze,ze] [ze] λx=>(YH x.1 x.2.1,())
theorem zk7:FK 318 F39:=by
 refine ag zoQ λx C h=>?_
 refine aZ fi zoQ (λid _=>h id) (zrq x.1 x.2.1) ?_;simp only[Tr.val,YH];repeat' split
 all_goals rfl
def A9(h:Sem ze):Sem ze:=if(ef h==2)=Q3 then aY 1 else if(ef h==1)=Q3 then aY 2 else aY 0
theorem zoS:zO kq.P 320 Tryz.f320 1:=bU kw
theorem zrs(h:Sem ze):rn kq 0 (λ_=>{ }) Tryz.f320 [zC ze h] []=br (ef h==2) (Tr.ok (zF.ret (Qd [ai (aY 1).1,ai (aY 1).2.1,str (aY 1).2.2]) [])) (br (ef h==1) (Tr.ok (zF.ret (Qd [ai (aY 2).1,ai (aY 2).2.1,str (aY 2).2.2]) [])) (Tr.ok (zF.ret (Qd [ai (aY 0).1,ai (aY 0).2.1,str (aY 0).2.2]) []))):=kw
def F41:ac:=aH [ze] [ze] λx=>(A9 x.1,())
theorem zla:FK 320 F41:=by
 refine ag zoS λx C h=>?_
 refine aZ fi zoS (λid _=>h id) (zrs x.1) ?_;simp only[Tr.val,A9];repeat' split
 all_goals rfl
def jJ(h:Sem ze):Sem ze:=dm ((ao h).1==0)
theorem zoZ:zO kq.P 326 Tryz.f326 1:=bU kw
theorem zry(h:Sem ze):rn kq 0 (λ_=>{ }) Tryz.f326 [zC ze h] []=Tr.ok (zF.ret (Qd [ai (dm ((ao h).1==0)).1,ai (dm ((ao h).1==0)).2.1,str (dm ((ao h).1==0)).2.2]) []):=kw
def F47:ac:=aH [ze] [ze] λx=>(jJ x.1,())
theorem zlg:FK 326 F47:=by
 refine ag zoZ λx C h=>?_
 refine aZ fi zoZ (λid _=>h id) (zry x.1) ?_;simp only[Tr.val,jJ];repeat' split
 all_goals rfl
noncomputable def mc:=kq.addL [(171,F70),(344,F58),(317,F38),(318,F39),(320,F41),(326,F47)]
theorem jn:zw mc:=fi.addL<|fc zlB<|fc zlq<|fc zk6<|fc zk7<|fc zla<|fc zlg iA
def aX(h:Sem ze)(o:Sem ze):Sem zg:=FE [pR (ao h).1 (ao o).1,jO (ao h).2.1 (ao o).2.1,mW (ao h).2.2 (ao o).2.2]
theorem zo8:zO mc.P 122 Tryz.f122 2:=bU kw
theorem zrJ(h:Sem ze)(o:Sem ze):rn mc 0 (λ_=>{ }) Tryz.f122 [zC ze h,zC ze o] []=Tr.ok (zF.ret (AV.int IntKind.i64 (FE [pR (ao h).1 (ao o).1,jO (ao h).2.1 (ao o).2.1,mW (ao h).2.2 (ao o).2.2])) []):=kw
def F60:ac:=aH [ze,ze] [zg] λx=>(aX x.1 x.2.1,())
theorem zlt:FK 122 F60:=by
 refine ag zo8 λx C h=>?_
 refine aZ jn zo8 (λid _=>h id) (zrJ x.1 x.2.1) ?_;simp only[Tr.val,aX];repeat' split
 all_goals rfl
def km(h:Sem ze)(o:Sem ze):Sem ze:=if(!eV h o)=Q3 then(0,0,[])else dm (h.1==o.1&&(h.2.1==o.2.1&&(h.2.2==o.2.2&&Q3)))
theorem zoT:zO mc.P 321 Tryz.f321 2:=bU kw
theorem zrt(h:Sem ze)(o:Sem ze):rn mc 0 (λ_=>{ }) Tryz.f321 [zC ze h,zC ze o] []=br (!eV h o) (Tr.ok (zF.ret (Qd [ai 0,ai 0,str []]) [])) (Tr.ok (zF.ret (Qd [ai (dm (h.1==o.1&&(h.2.1==o.2.1&&(h.2.2==o.2.2&&Q3)))).1,ai (dm (h.1==o.1&&(h.2.1==o.2.1&&(h.2.2==o.2.2&&Q3)))).2.1,str (dm (h.1==o.1&&(h.2.1==o.2.1&&(h.2.2==o.2.2&&Q3)))).2.2]) [])):=kw
def F42:ac:=aH [ze,ze] [ze] λx=>(km x.1 x.2.1,())
theorem zlb:FK 321 F42:=by
 refine ag zoT λx C h=>?_
 refine aZ jn zoT (λid _=>h id) (zrt x.1 x.2.1) ?_;simp only[Tr.val,km];repeat' split
 all_goals rfl
def qR(h:Sem ze)(o:Sem ze):Sem ze:=if(cond (!eV h o) Q3 (h.1!=1))=Q3 then(0,0,[])else if(cond (Q0 (o.2.1>0)) (cond (Q0 (Γ Δ (h.2.1+o.2.1)<h.2.1)) Q3 (cond (Q0 (o.2.1<0)) (Q0 (Γ Δ (h.2.1+o.2.1)>h.2.1)) Q4)) (cond (Q0 (o.2.1<0)) (Q0 (Γ Δ (h.2.1+o.2.1)>h.2.1)) Q4))=Q3 then(0,0,[])else(1,Γ Δ (h.2.1+o.2.1),[])
theorem zoW:zO mc.P 323 Tryz.f323 2:=bU kw
theorem zrv(h:Sem ze)(o:Sem ze):rn mc 0 (λ_=>{ }) Tryz.f323 [zC ze h,zC ze o] []=br (cond (!eV h o) Q3 (h.1!=1)) (Tr.ok (zF.ret (Qd [ai 0,ai 0,str []]) [])) (br (cond (Q0 (o.2.1>0)) (cond (Q0 (Γ Δ (h.2.1+o.2.1)<h.2.1)) Q3 (cond (Q0 (o.2.1<0)) (Q0 (Γ Δ (h.2.1+o.2.1)>h.2.1)) Q4)) (cond (Q0 (o.2.1<0)) (Q0 (Γ Δ (h.2.1+o.2.1)>h.2.1)) Q4)) (Tr.ok (zF.ret (Qd [ai 0,ai 0,str []]) [])) (Tr.ok (zF.ret (Qd [ai 1,ai (Γ Δ (h.2.1+o.2.1)),str []]) []))):=kw
def F44:ac:=aH [ze,ze] [ze] λx=>(qR x.1 x.2.1,())
theorem zld:FK 323 F44:=by
 refine ag zoW λx C h=>?_
 refine aZ jn zoW (λid _=>h id) (zrv x.1 x.2.1) ?_;simp only[Tr.val,qR];repeat' split
 all_goals rfl
def mJ(h:Sem ze)(o:Sem ze):Sem ze:=if(cond (!eV h o) Q3 (h.1!=1))=Q3 then(0,0,[])else if(cond (Q0 (o.2.1>0)) (cond (Q0 (Γ Δ (h.2.1-o.2.1)>h.2.1)) Q3 (cond (Q0 (o.2.1<0)) (Q0 (Γ Δ (h.2.1-o.2.1)<h.2.1)) Q4)) (cond (Q0 (o.2.1<0)) (Q0 (Γ Δ (h.2.1-o.2.1)<h.2.1)) Q4))=Q3 then(0,0,[])else(1,Γ Δ (h.2.1-o.2.1),[])
theorem zoX:zO mc.P 324 Tryz.f324 2:=bU kw
theorem zrw(h:Sem ze)(o:Sem ze):rn mc 0 (λ_=>{ }) Tryz.f324 [zC ze h,zC ze o] []=br (cond (!eV h o) Q3 (h.1!=1)) (Tr.ok (zF.ret (Qd [ai 0,ai 0,str []]) [])) (br (cond (Q0 (o.2.1>0)) (cond (Q0 (Γ Δ (h.2.1-o.2.1)>h.2.1)) Q3 (cond (Q0 (o.2.1<0)) (Q0 (Γ Δ (h.2.1-o.2.1)<h.2.1)) Q4)) (cond (Q0 (o.2.1<0)) (Q0 (Γ Δ (h.2.1-o.2.1)<h.2.1)) Q4)) (Tr.ok (zF.ret (Qd [ai 0,ai 0,str []]) [])) (Tr.ok (zF.ret (Qd [ai 1,ai (Γ Δ (h.2.1-o.2.1)),str []]) []))):=kw
def F45:ac:=aH [ze,ze] [ze] λx=>(mJ x.1 x.2.1,())
theorem zle:FK 324 F45:=by
 refine ag zoX λx C h=>?_
 refine aZ jn zoX (λid _=>h id) (zrw x.1 x.2.1) ?_;simp only[Tr.val,mJ];repeat' split
 all_goals rfl
def Rs(h:Sem ze)(_:Sem ze):Sem ze:=A9 h
theorem zoR:zO mc.P 319 Tryz.f319 2:=bU kw
theorem zrr(h:Sem ze)(o:Sem ze):rn mc 0 (λ_=>{ }) Tryz.f319 [zC ze h,zC ze o] []=Tr.ok (zF.ret (Qd [ai (A9 h).1,ai (A9 h).2.1,str (A9 h).2.2]) []):=kw
def F40:ac:=aH [ze,ze] [ze] λx=>(Rs x.1 x.2.1,())
theorem zk9:FK 319 F40:=by
 refine ag zoR λx C h=>?_
 refine aZ jn zoR (λid _=>h id) (zrr x.1 x.2.1) ?_;simp only[Tr.val,Rs];repeat' split
 all_goals rfl
def Kl(h:Sem ze)(_:Sem ze):Sem ze:=jJ h
theorem zoY:zO mc.P 325 Tryz.f325 2:=bU kw
theorem zrx(h:Sem ze)(o:Sem ze):rn mc 0 (λ_=>{ }) Tryz.f325 [zC ze h,zC ze o] []=Tr.ok (zF.ret (Qd [ai (jJ h).1,ai (jJ h).2.1,str (jJ h).2.2]) []):=kw
def F46:ac:=aH [ze,ze] [ze] λx=>(Kl x.1 x.2.1,())
theorem zlf:FK 325 F46:=by
 refine ag zoY λx C h=>?_
 refine aZ jn zoY (λid _=>h id) (zrx x.1 x.2.1) ?_;simp only[Tr.val,Kl];repeat' split
 all_goals rfl
noncomputable def sX:=mc.addL [(122,F60),(321,F42),(323,F44),(324,F45),(319,F40),(325,F46)]
theorem kJ:zw sX:=jn.addL<|fc zlt<|fc zlb<|fc zld<|fc zle<|fc zk9<|fc zlf iA
def tr(h:Sem ze)(o:Sem ze):Sem ze:=if(!eV h o)=Q3 then(0,0,[])else dm (Q0 (aX h o<0))
theorem zoV:zO sX.P 322 Tryz.f322 2:=bU kw
theorem zru(h:Sem ze)(o:Sem ze):rn sX 0 (λ_=>{ }) Tryz.f322 [zC ze h,zC ze o] []=br (!eV h o) (Tr.ok (zF.ret (Qd [ai 0,ai 0,str []]) [])) (Tr.ok (zF.ret (Qd [ai (dm (Q0 (aX h o<0))).1,ai (dm (Q0 (aX h o<0))).2.1,str (dm (Q0 (aX h o<0))).2.2]) [])):=kw
def F43:ac:=aH [ze,ze] [ze] λx=>(tr x.1 x.2.1,())
theorem zlc:FK 322 F43:=by
 refine ag zoV λx C h=>?_
 refine aZ kJ zoV (λid _=>h id) (zru x.1 x.2.1) ?_;simp only[Tr.val,tr];repeat' split
 all_goals rfl
def FL(h:Sem ze):Sem ze:=if Q0 ((↑(Io h.2.2):Int)>60)=Q3 then(h.1,h.2.1,Qg (toNat 60-toNat 0) (Qh (toNat 0) h.2.2))else h
def Nb(h:Sem ze):Bool:=bif Q0 ((↑(Io h.2.2):Int)>60)then Q0 (0<=0)&&Q0 (0<=60)&&Q0 (60<=(↑(Io h.2.2):Int))else Q3
theorem zoz:zO sX.P 85 Tryz.f85 1:=bU kw
theorem zra(h:Sem ze):rn sX 0 (λ_=>{ }) Tryz.f85 [zC ze h] []=br (Q0 ((↑(Io h.2.2):Int)>60)) (chk (Q0 (0<=0)&&Q0 (0<=60)&&Q0 (60<=(↑(Io h.2.2):Int))) (Tr.ok (zF.ret (Qd [ai h.1,ai h.2.1,str (Qg (toNat 60-toNat 0) (Qh (toNat 0) h.2.2))]) []))) (Tr.ok (zF.ret (Qd [ai h.1,ai h.2.1,str h.2.2]) [])):=kw
def F14:ac:=zT [ze] [ze] (λx=>Nb x.1) λx=>(FL x.1,())
theorem zc2:FK 85 F14:=by
 refine aL zoz λx o C h=>?_
 refine aZ kJ zoz (λid _=>h id) (zra x.1) ?_;simp only[Nb,Bool.cond_eq_ite]at o;simp only[Tr.val,FL];repeat' split
 all_goals first|rfl|simp_all
def jA(h:Sem Q6):Sem Q6:=if Q0 ((↑(Io h):Int)>20)=Q3 then Qg (toNat 20-toNat 0) (Qh (toNat 0) h)else h
def Rg(h:Sem Q6):Bool:=bif Q0 ((↑(Io h):Int)>20)then Q0 (0<=0)&&Q0 (0<=20)&&Q0 (20<=(↑(Io h):Int))else Q3
theorem zoy:zO sX.P 135 Tryz.f135 1:=bU kw
theorem zq9(h:Sem Q6):rn sX 0 (λ_=>{ }) Tryz.f135 [zC Q6 h] []=br (Q0 ((↑(Io h):Int)>20)) (chk (Q0 (0<=0)&&Q0 (0<=20)&&Q0 (20<=(↑(Io h):Int))) (Tr.ok (zF.ret (str (Qg (toNat 20-toNat 0) (Qh (toNat 0) h))) []))) (Tr.ok (zF.ret (str h) [])):=kw
def F12:ac:=zT [Q6] [Q6] (λx=>Rg x.1) λx=>(jA x.1,())
theorem zc1:FK 135 F12:=by
 refine aL zoy λx o C h=>?_
 refine aZ kJ zoy (λid _=>h id) (zq9 x.1) ?_;simp only[Rg,Bool.cond_eq_ite]at o;simp only[Tr.val,jA];repeat' split
 all_goals first|rfl|simp_all
noncomputable def F79:ac:=bp (List.replicate 2 Q2) (fA sX Tryz.f297 (List.replicate 2 Q2))
theorem zlG:FK 297 F79:=ch _ kJ (bU kw)
noncomputable def F18:ac:=bp (List.replicate 2 Q2) (fA sX Tryz.f220 (List.replicate 2 Q2))
theorem zkT:FK 220 F18:=ch _ kJ (bU kw)
noncomputable def zdc:=sX.addL [(322,F43),(85,F14),(135,F12),(297,F79),(220,F18)]
theorem xw:zw zdc:=kJ.addL<|fc zlc<|fc zc2<|fc zc1<|fc zlG<|fc zkT iA
open Go
def uy:(ks:List Sh)->zz (ks.map Q1++[Q2])->zz (ks.map Q1)×AV
 |[],x=>((),x.1)
 |_::ks,x=>((x.1,(uy ks x.2).1),(uy ks x.2).2)
theorem Cw:∀(ks:List Sh)(x:zz (ks.map Q1++[Q2])),jD (ks.map Q1++[Q2]) x=jD (ks.map Q1) (uy ks x).1++[(uy ks x).2]
 |[],_=>rfl
 |s::ks,x=>congrArg (zC s x.1::·) (Cw ks x.2)
def V0(k:Nat):AV->Bool
 |.clo (.func j) [] []=>j==k
 |_=>Q4
theorem V1{k:Nat}{v:AV}(h:V0 k v=Q3):v=.clo (.func k) [] []:=by
 unfold V0 at h;split at h
 ·rw[bg]at h;rw[h]
 ·cases h
abbrev TM(ks outs:List Sh):=Nat×(zz (ks.map Q1)->Bool)×(zz (ks.map Q1)->zz (outs.map Q1))
def ZQ{ks outs:List Sh}(v:AV):List (TM ks outs)->Option ((zz (ks.map Q1)->Bool)×(zz (ks.map Q1)->zz (outs.map Q1)))
 |[]=>Q2
 |(k,a)::r=>if V0 k v then Q1 a else ZQ v r
theorem KN{ks outs:List Sh}{v:AV}{a}:∀{l:List (TM ks outs)},ZQ v l=Q1 a->∃k,v=.clo (.func k) [] []/\(k,a)∈l
 |[],h=>by cases h
 | (k,b)::r,h=>by
  unfold ZQ at h;split at h
  ·rename_i z;cases h;exact⟨k,V1 z,Ab ..⟩
  ·obtain⟨j,o,u⟩:=KN h;exact⟨j,o,pH _ u⟩
def QH(ks outs:List Sh)(l:List (TM ks outs)):iV (ks.map Q1++[Q2]):=λx h=>match h with
 | []=>match ZQ (uy ks x).2 l with
  |some (c,g)=>.chk (c (uy ks x).1) (.ok (wz outs (g (uy ks x).1),[]))
  |none=>.err
 |_=>.err
def Xx(ks outs:List Sh)(l:List (TM ks outs)):ac:=bp (ks.map Q1++[Q2]) (QH ks outs l)
theorem Nk{P:Program}{z:Nat->AV}{E:bY}{k:FuncId}{f:Func}{ks outs:List Sh}{l:List (TM ks outs)}(F:zO E.P k f (Io ks+1))
  (h:∀j c g,(j,c,g)∈l->∀x,c x=Q3->∀C:fg,(∀id,C.ρ0 id=Q2)->Reach E C k (bC f) (bj f.ntmps (jD (ks.map Q1) x++[.clo (.func j) [] []]) []) (λr h=>aI h outs r=Q1 (g x))) (J:E.P=P:=by rfl) (I:E.gl=z:=by rfl):pp P z k (Xx ks outs l):=by
 subst J I;refine dV (by simpa using F) λx M L o C B=>?_
 unfold QH at o;split at o
 ·split at o
  ·rename_i c g u;obtain⟨j,H,G⟩:=KN u;simp only[Tr.val]at o;split at o
   ·rename_i D;simp only[bH]at o;subst o;rw[Cw,H];exact Reach.plain (λid=>B id (by simp)) (h j c g G _ D C (λid=>B id (by simp)))
   ·simp at o
  ·simp at o
 ·simp at o
inductive CP where
 |d (s:Sh)
 |nil
 |vec (e:Sh)
@[reducible] def zm:List CP->Type
 |[]=>Unit
 |.d s::r=>Sem s×zm r
 |.nil::r=>zm r
 |.vec e::r=>List (Sem e)×zm r
def eK:(n:Nat)->(ps:List CP)->zm ps->List AV
 |_,[],_=>[]
 |n,.d s::r,y=>zu s y.1++eK n r y.2
 |n,.nil::r,y=>.nils::eK n r y
 |n,.vec _::r,y=>.vec n::eK (n+1) r y.2
def gw:(ps:List CP)->zm ps->List AO
 |[],_=>[]
 |.d _::r,y=>gw r y.2
 |.nil::r,y=>gw r y
 |.vec e::r,y=>.vec e y.1::gw r y.2
def ay(ps:List CP)(y:zm ps):List AO:=.box (eK 1 ps y)::gw ps y
def ba:List CP->Nat
 |[]=>0
 |.vec _::r=>ba r+1
 |_::r=>ba r
theorem bP:∀(ps:List CP)(y:zm ps),(gw ps y).length=ba ps
 |[],_=>rfl
 |.d _::r,y=>bP r y.2
 |.nil::r,y=>bP r y
 |.vec _::r,y=>congrArg (·+1) (bP r y.2)
def cF(hp:Nat->AO):(n:Nat)->(ps:List CP)->List AV->Option (zm ps)
 |_,[],[]=>Q1 ()
 | n,.d s::r,cs=>match cU (fun _=>.dead) s cs with
  | some (x,cs')=>match cF hp n r cs' with
   |some y=>Q1 (x,y)
   |none=>Q2
  |none=>Q2
 |n,.nil::r,.nils::cs=>cF hp n r cs
 | n,.vec e::r,.vec id::cs=>if id=n then match hp id with
   | .vec o l=>if h:o=e then match cF hp (n+1) r cs with
     |some y=>Q1 (h▸l,y)
     |none=>Q2
    else Q2
   |_=>Q2
  else Q2
 |_,_,_=>Q2
section
variable {w:World} {U:Nat->Prop} {ρ:Nat->Option Value}
theorem dB.app{a b:List AV}{C D:List Value}(h:dB w U ρ a C)(z:dB w U ρ b D):dB w U ρ (a++b) (C++D) where
 len:=by simp[h.len,z.len]
 rv:=by
  intro j c v o u;by_cases B:j<Io a
  ·rw[mS B]at o;rw[mS (by rw[<-h.len];exact B)]at u;exact h.rv j c v o u
  ·rw[pu ow]at o;rw[pu (by rw[<-h.len];omega),<-h.len]at u;exact z.rv _ c v o u
theorem dB.tail{a:AV}{l:List AV}{v:Value}{vs:List Value}(h:dB w U ρ (a::l) (v::vs)):dB w U ρ l vs:=
 ⟨by have:=h.len;simpa using this,λj c x o u=>h.rv (j+1) c x (by simpa using o) (by simpa using u)⟩
theorem dB.consH{a:AV}{l:List AV}{v:Value}{vs:List Value}(z:Rv w U ρ a v)(u:dB w U ρ l vs):dB w U ρ (a::l) (v::vs) where
 len:=by simp[u.len]
 rv:=by
  intro j c x h o;cases j with
  |zero=>simp at h o;subst h;subst o;exact z
  |succ j=>exact u.rv j c x (by simpa using h) (by simpa using o)
theorem fJ{hp:Nat->AO}:∀(ps:List CP)(n:Nat)(cs:List AV)(y:zm ps)(u:List Value),cF hp n ps cs=Q1 y->dB w U ρ cs u->
  dB w U ρ (eK n ps y) u/\∀(j:Nat) o,(gw ps y)[j]?=Q1 o->hp (n+j)=o
 |[],n,[],y,u,h,z=>⟨z,by simp[gw]⟩
 |[],n,_::_,y,u,h,z=>by simp[cF]at h
 | .d s::r,n,cs,y,u,h,z=>by
  unfold cF at h;split at h
  ·rename_i x cs' X;split at h
   ·rename_i O M;cases h
    have Y:=ov (w:=w) (U:=U) (U':=U) (ρ:=ρ) (hp:=λ_=>.dead) (λ_ h=>h) s cs x cs' (λj=>u.getD j undef) X
     (λj c C=>by
      have H:j<Io u:=by rw[<-z.len];exact(dp.1 C).1
      have:=z.rv j c u[j] C (zU H);simpa[List.getD,zU H]using this)
     (λid _=>⟨trivial,λb T=>by simp[ar,AO.owns]at T⟩)
    obtain⟨k1,S,k3⟩:=Y;have D:dB w U ρ cs' (u.drop s.size):=by
     refine⟨by rw[S];simp[z.len],λj c v C B=>?_⟩;rw[S,F2]at C;rw[F2]at B;exact z.rv _ c v C B
    obtain⟨I,J⟩:=fJ r n cs' O (u.drop s.size) M D;refine⟨?_,J⟩;have F:dB w U ρ (zu s x) (u.take s.size):=by
     refine⟨by rw[ae];have:=z.len;simp;omega,λj c v C B=>?_⟩;have G:j<s.size:=by rw[<-ae s x];exact(dp.1 C).1
     rw[List.getElem?_take,if_pos G]at B;have:=k3 j c C;simpa[List.getD,B]using this
    have:=F.app I;rw[List.take_append_drop]at this;exact this
   ·cases h
  ·cases h
 | .nil::r,n,.nils::cs,y,u,h,z=>by
  match u,z with
  |[],z=>have:=z.len;simp at this
  | v::vs,z=>
   have B:=z.rv 0 _ v rfl rfl;obtain⟨I,J⟩:=fJ r n cs y vs h z.tail;exact⟨dB.consH B I,J⟩
 | .vec e::r,n,.vec id::cs,y,u,h,z=>by
  match u,z with
  |[],z=>have:=z.len;simp at this
  | v :: vs,z=>
   have B:=z.rv 0 _ v rfl rfl;unfold cF at h;split at h
   ·rename_i L;subst L;split at h
    ·rename_i e' l Z;split at h
     ·rename_i W;subst W;split at h
      ·rename_i O M;cases h;obtain⟨I,J⟩:=fJ r (id+1) cs O vs M z.tail;refine⟨dB.consH B I,λj o G=>?_⟩;cases j with
       |zero=>simp[gw]at G;subst G;exact Z
       | succ j=>
        have:=J j o (by simpa[gw]using G);rw[<-this];congr 1;omega
      ·cases h
     ·cases h
    ·cases h
   ·cases h
 |.nil::_,_,[],_,_,h,_=>by simp[cF]at h
 |.vec _::_,_,[],_,_,h,_=>by simp[cF]at h
 |.nil::_,_,.any::_,_,_,h,_|.nil::_,_,.kb _::_,_,_,h,_|.nil::_,_,.bool _::_,_,_,h,_|.nil::_,_,.int _ _::_,_,_,h,_|.nil::_,_,.str _::_,_,_,h,_
 |.nil::_,_,.sl _ _::_,_,_,h,_|.nil::_,_,.vec _::_,_,_,h,_|.nil::_,_,.ptr _ _::_,_,_,h,_|.nil::_,_,.vptr _ _ _ _::_,_,_,h,_|.nil::_,_,.eptr _ _::_,_,_,h,_
 |.nil::_,_,.nilp::_,_,_,h,_|.nil::_,_,.agg _::_,_,_,h,_|.nil::_,_,.tup _::_,_,_,h,_|.nil::_,_,.clo _ _ _::_,_,_,h,_|.nil::_,_,.nilf::_,_,_,h,_
 |.nil::_,_,.mp _::_,_,_,h,_|.nil::_,_,.ifc _::_,_,_,h,_|.nil::_,_,.tab _ _::_,_,_,h,_|.nil::_,_,.gint::_,_,_,h,_=>by simp[cF]at h
 |.vec _::_,_,.any::_,_,_,h,_|.vec _::_,_,.kb _::_,_,_,h,_|.vec _::_,_,.bool _::_,_,_,h,_|.vec _::_,_,.int _ _::_,_,_,h,_|.vec _::_,_,.str _::_,_,_,h,_
 |.vec _::_,_,.sl _ _::_,_,_,h,_|.vec _::_,_,.nils::_,_,_,h,_|.vec _::_,_,.ptr _ _::_,_,_,h,_|.vec _::_,_,.vptr _ _ _ _::_,_,_,h,_|.vec _::_,_,.eptr _ _::_,_,_,h,_
 |.vec _::_,_,.nilp::_,_,_,h,_|.vec _::_,_,.agg _::_,_,_,h,_|.vec _::_,_,.tup _::_,_,_,h,_|.vec _::_,_,.clo _ _ _::_,_,_,h,_|.vec _::_,_,.nilf::_,_,_,h,_
 |.vec _::_,_,.mp _::_,_,_,h,_|.vec _::_,_,.ifc _::_,_,_,h,_|.vec _::_,_,.tab _ _::_,_,_,h,_|.vec _::_,_,.gint::_,_,_,h,_=>by simp[cF]at h
end
theorem jK.box{C:fg}{w:World}{U:Nat->Prop}{ρ:Nat->Option Value}{cs:List AV}{os:List AO}{ps:List CP}{y:zm ps}(F:jK C w U ρ (λj=>((Qa cs::os).getD j .dead)))(hl:Io os=ba ps)
  (Y:cF (kj (.box cs::os)) 1 ps cs=Q1 y):jK C w U ρ (λj=>(ay ps y).getD j .dead):=by
 have I:bF w U ρ 0 (.box cs):=F.ob 0;obtain⟨b,T,B,J,L,M,O,S⟩:=I;obtain⟨k1,k2⟩:=fJ ps 1 cs y B.toList Y O;have z:∀id,id≠0->(ay ps y).getD id .dead=(Qa cs::os).getD id .dead:=by
  intro id h;obtain⟨j,rfl⟩:∃j,id=j+1:=⟨id-1,ow⟩;by_cases G:j<(gw ps y).length
  ·have:=k2 j _ (zU G);unfold ay;simp only[Cl];rw[aU,zU G];simp only[kj,pd 1 j,Cl]at this;simpa using this.symm
  ·have W:Io os<=j:=by rw[bP]at G;omega
   unfold ay;simp only[Cl];rw[aU,aU,eB ow,eB W]
 have u:∀id b,ar ρ id ((ay ps y).getD id .dead) b->ar ρ id ((Qa cs::os).getD id .dead) b:=by
  intro id D ho;by_cases h:id=0
  ·subst h;obtain⟨_,v,Z,X⟩:=ho;exact⟨rfl,v,Z,X⟩
  ·rw[z id h]at ho;exact ho
 refine⟨λid=>?_,λid1 H D o1 o2=>F.inj id1 H D (u _ _ o1) (u _ _ o2),λid D o=>F.blk id D (u _ _ o)⟩;by_cases h:id=0
 ·subst h;exact⟨b,T,B,J,L,M,k1,S⟩
 ·show bF w U ρ id ((ay ps y).getD id .dead);rw[z id h];exact F.ob id
def tF(ps:List CP)(outs:List Sh)(r:AV)(h:List AO):Option (zz (outs.map Q1)×zm ps):=match h with
 | .box cs::os=>if Io os=ba ps then match aI [] outs r,cF (kj (.box cs::os)) 1 ps cs with
   |some a,Q1 y=>Q1 (a,y)
   |_,_=>Q2
  else Q2
 |_=>Q2
def zmd(ps:List CP)(ks outs:List Sh)(o:List CP)(c:zm ps->zz (ks.map Q1)->Bool)(g:zm ps->zz (ks.map Q1)->zz (outs.map Q1)×zm o):iV (Q2::ks.map Q1):=λx h=>match x.1,h with
 | .ptr 0 0,.box cs::os=>if Io os=ba ps then match cF (kj (.box cs::os)) 1 ps cs with
   |some y=>.chk (c y x.2) (.ok (wz outs (g y x.2).1,ay o (g y x.2).2))
   |none=>.err
  else .err
 |_,_=>.err
def sE(ps:List CP)(ks outs:List Sh)(h:List CP)(c:zm ps->zz (ks.map Q1)->Bool)(g:zm ps->zz (ks.map Q1)->zz (outs.map Q1)×zm h):ac:=bp (Q2::ks.map Q1) (zmd ps ks outs h c g)
theorem sW(ps:List CP)(y:zm ps):(ay ps y).length=ba ps+1:=by
 simp[ay,bP]
theorem HL{w:World}{U:Nat->Prop}{ρ:Nat->Option Value}{outs:List Sh}{r:AV}{y:zz (outs.map Q1)}{v:Value}(h:aI [] outs r=Q1 y)(C:Rv w U ρ r v):Rv w U ρ (wz outs y) v:=by
 have B:∀id,bF w U ρ id (kj [] id)/\∀b,ar ρ id (kj [] id) b->¬U b:=λid=>⟨by simp[kj,bF],λb z=>by simp[kj,ar,AO.owns]at z⟩
 have o:∀(outs:List Sh)(y:zz (outs.map Q1))(u:List AV),mj (kj []) (λi=>i) (outs.map Q1) u=Q1 y->Rv w U ρ (.tup u) v->Rv w U ρ (.tup (jD (outs.map Q1) y)) v:=by
  intro outs y u I F;cases F with
  |tup _ vs G D=>
  have:=(jT (w:=w) (U:=U) (ρ:=ρ) (U':=U) (ρ':=ρ) (hp:=kj []) (f:=λi=>i) (λb z=>z) (outs.map Q1) u vs _ (qr outs u y I) ⟨G,D⟩ (λid _=>B id)
   (λid _=>rfl)).1
  simp only[pM,uE,zA,if_false,List.map_id']at this;exact .tup _ vs this.len this.rv
 match outs,y,h with
 | [s],y,h=>
  simp only[aI]at h;split at h
  ·rename_i x H;cases h;exact CL H C (λb z=>z) (λid _=>B id)
  ·cases h
 | [],y,h=>
  simp only[aI]at h;cases r with
  |tup u=>exact o [] y _ h C
  |_=>cases h
 | J::s2::ss,y,h=>
  simp only[aI]at h;cases r with
  |tup u=>exact o _ y _ h C
  |_=>cases h
theorem ZG{P:Program}{Z:Nat->AV}{E:bY}{k:FuncId}{f:Func}{ps:List CP}{ks outs:List Sh}{G:List CP}{c:zm ps->zz (ks.map some)->Bool}{g:zm ps->zz (ks.map some)->zz (outs.map some)×zm G}(hf:zO E.P k f (Io ks+1))
  (h:∀y x,c y x=Q3->∀C:fg,(∀id,ba ps+1<=id->C.ρ0 id=Q2)->Reach E C k (bC f) (bj f.ntmps (.ptr 0 0::jD (ks.map Q1) x) (ay ps y)) (λr h=>tF G outs r h=Q1 (g y x))) (qp:E.P=P:=by rfl) (qg:E.gl=Z:=by rfl):
  pp P Z k (sE ps ks outs G c g):=by
 subst qp qg;refine dV (by simpa using hf) λx h0 h5 u C hC=>?_
 obtain⟨x0,x⟩:=x;unfold zmd at u;simp only at u;split at u
 ·rename_i cs os;split at u
  ·rename_i F;split at u
   ·rename_i y hy;simp only[Tr.val]at u;split at u
    ·rename_i hc;simp only[bH]at u;subst u;have hR:=h y x hc C (λid o=>hC id (by simpa[F]using o));intro b J a w U ρ h1 h2 z hW;have hH:jK C w U ρ (λj=>((Qa cs::os).getD j .dead)):=z.hp
     have H:Cn C (bj f.ntmps (.ptr 0 0::jD (ks.map Q1) x) (ay ps y)) a w U ρ:=
      ⟨z.tm,hH.box F hy,λid o=>z.new id (by have o:(ay ps y).length<=id:=o;rw[sW]at o;simpa[bj,F]using o),z.df,z.r0⟩
     obtain⟨e,w',fr,⟨v,r,h',U',ρ',he,B,X,L,I,W,M⟩,S,T,hl⟩:=hR b J a w U ρ h1 h2 H hW;unfold tF at B;split at B
     ·rename_i h3 h4;split at B
      ·rename_i D;split at B
       ·rename_i a' y' O Y;simp only[bH]at B;refine⟨e,w',fr,⟨v,_,_,U',ρ',he,by rw[<-B],HL O X,L.box D Y,λid o=>I id (by rw[sW]at o;simpa[D]using o),W,M⟩,S,T,hl⟩
       ·cases B
      ·cases B
     ·cases B
    ·simp at u
   ·simp at u
  ·simp at u
 ·simp at u
def vz(E:bY)(n0:Nat)(keep:Nat->aM)(f:Func)(gas:Nat):Nat->List Item->St->Option (AV×List AO)
 |0,_,_=>Q2
 | n+1,K,st=>match (run E n0 keep f.results.toList gas K st).val with
  |some (.ret v h)=>Q1 (v,h)
  |some (.head _ u o)=>vz E n0 keep f gas n u o
  |_=>Q2
theorem ql{E:bY}{C:fg}{k:FuncId}{f:Func}{Q:AV->List AO->Prop}{m n0:Nat}(u:zw E)(z:zO E.P k f m)(o:∀id,n0<=id->C.ρ0 id=Q2){keep:Nat->aM}{gas:Nat}:
  ∀(n:Nat)(K:List Item)(st:St)(r:AV×List AO),vz E n0 keep f gas n K st=Q1 r->Q r.1 r.2->Reach E C k K st Q
 |0,_,_,_,h,_=>by cases h
 | n+1,K,st,r,h,F=>by
  unfold vz at h;split at h
  ·rename_i v H B;cases h;exact nH u z o B F
  ·rename_i j G D B;exact nH u z o B (ql u z o n G D r h F)
  ·cases h
def bQ:(outs:List Sh)->zz (outs.map Q1)
 |[]=>()
 |s::r=>(zi s,bQ r)
def fK:(ps:List CP)->zm ps
 |[]=>()
 |.d s::r=>(zi s,fK r)
 |.nil::r=>fK r
 |.vec _::r=>([],fK r)
def bf:List Nat->(ps:List CP)->zm ps->List AV
 |_,[],_=>[]
 |n,.d s::r,y=>zu s y.1++bf n r y.2
 |n,.nil::r,y=>.nils::bf n r y
 |n,.vec _::r,y=>.vec (n.headD 0)::bf n.tail r y.2
def itO(E:bY)(keep:Nat->aM)(f:Func)(gas n:Nat)(ks outs:List Sh)(x:zz (ks.map Q1)):Option (zz (outs.map Q1)):=
 (vz E 0 keep f gas n (bC f) (bj f.ntmps (jD (ks.map Q1) x) [])).bind λr=>aI r.2 outs r.1
def OF(ks outs:List Sh)(g:zz (ks.map Q1)->Option (zz (outs.map Q1))):ac:=zT ks outs (λx=>(g x).isSome) λx=>(g x).getD (bQ outs)
theorem zgv{P:Program}{o:Nat->AV}{E:bY}{k:FuncId}{f:Func}{ks outs:List Sh}{keep:Nat->aM}{gas n:Nat}(G:zw E)(z:zO E.P k f (Io ks))(I:E.P=P:=by rfl)(H:E.gl=o:=by rfl):pp P o k (OF ks outs (itO E keep f gas n ks outs)):=by
 subst I H;refine aL z λx u C F=>?_
 rw[Option.isSome_iff_exists]at u;obtain⟨y,h⟩:=u;rw[h];unfold itO at h;rw[gp]at h;obtain⟨r,B,D⟩:=h;exact ql G z (λid _=>F id) n _ _ r B D
def itB(E:bY)(keep:Nat->aM)(f:Func)(gas n:Nat)(ps:List CP)(ks outs:List Sh)(h:List CP)(y:zm ps)(x:zz (ks.map Q1)):Option (zz (outs.map Q1)×zm h):=
 (vz E (ba ps+1) keep f gas n (bC f) (bj f.ntmps (.ptr 0 0::jD (ks.map Q1) x) (ay ps y))).bind λr=>tF h outs r.1 r.2
def zqo(ps:List CP)(ks outs:List Sh)(h:List CP)(g:zm ps->zz (ks.map Q1)->Option (zz (outs.map Q1)×zm h)):ac:=
 sE ps ks outs h (λy x=>(g y x).isSome) λy x=>(g y x).getD (bQ outs,fK h)
theorem ZH{P:Program}{u:Nat->AV}{E:bY}{k:FuncId}{f:Func}{ps:List CP}{ks outs:List Sh}{h:List CP}{keep:Nat->aM}{gas n:Nat}(I:zw E)(D:zO E.P k f (Io ks+1))(L:E.P=P:=by rfl)(J:E.gl=u:=by rfl):pp P u k (zqo ps ks outs h (itB E keep f gas n ps ks outs h)):=by
 subst L J;refine ZG D λy x B C H=>?_
 rw[Option.isSome_iff_exists]at B;obtain⟨z,o⟩:=B;rw[o];unfold itB at o;rw[gp]at o;obtain⟨r,F,G⟩:=o;exact ql I D H n _ _ r F G
theorem Nl{P:Program}{z:Nat->AV}{k:FuncId}{ks outs:List Sh}{g:zz (ks.map Q1)->Option (zz (outs.map Q1))}{c:zz (ks.map Q1)->Bool}{u:zz (ks.map Q1)->zz (outs.map Q1)}(h:pp P z k (OF ks outs g))(C:∀x,c x=Q3->g x=Q1 (u x)):pp P z k (zT ks outs c u):=by
 refine Bb (ι:=Unit) (Gs:=λ_=>eO ks outs (λx=>(g x).isSome) λx=>(g x).getD (bQ outs)) (λ_=>h) λx F D o=>⟨(),?_⟩
 unfold eO at o⊢;split at o
 ·simp only[Tr.val]at o⊢;split at o
  ·rename_i B;simp only[C x B,F3,if_true,dv];exact o
  ·simp at o
 ·simp at o
theorem g7{P:Program}{u:Nat->AV}{k:FuncId}{ks outs:List Sh}{g:zz (ks.map Q1)->Option (zz (outs.map Q1))}{o:zz (ks.map Q1)->zz (outs.map Q1)}(h:pp P u k (OF ks outs g))(z:∀x,g x=Q1 (o x)):pp P u k (aH ks outs o):=
 Py (Nl h λx _=>z x)
theorem ZI{P:Program}{h:Nat->AV}{E:bY}{k:FuncId}{f:Func}{ks outs:List Sh}{keep:Nat->aM}{gas n:Nat}{c:zz (ks.map Q1)->Bool}{g:zz (ks.map Q1)->zz (outs.map Q1)}(o:zw E)(z:zO E.P k f (Io ks))
  (u:∀x,c x=(itO E keep f gas n ks outs x).isSome) (B:∀x,g x=(itO E keep f gas n ks outs x).getD (bQ outs)) (D:E.P=P:=by rfl) (C:E.gl=h:=by rfl):pp P h k (zT ks outs c g):=by
 subst D C;obtain rfl:c=λx=>(itO E keep f gas n ks outs x).isSome:=funext u
 obtain rfl:g=λx=>(itO E keep f gas n ks outs x).getD (bQ outs):=funext B
 exact zgv o z
theorem T2{P:Program}{o:Nat->AV}{E:bY}{k:FuncId}{f:Func}{ps:List CP}{ks outs:List Sh}{h:List CP}{keep:Nat->aM}{gas n:Nat}{c:zm ps->zz (ks.map Q1)->Bool}{g:zm ps->zz (ks.map Q1)->zz (outs.map Q1)×zm h}(u:zw E)(B:zO E.P k f (Io ks+1))
  (z:∀y x,c y x=(itB E keep f gas n ps ks outs h y x).isSome) (C:∀y x,g y x=(itB E keep f gas n ps ks outs h y x).getD (bQ outs,fK h)) (F:E.P=P:=by rfl) (D:E.gl=o:=by rfl):pp P o k (sE ps ks outs h c g):=by
 subst F D;obtain rfl:c=λy x=>(itB E keep f gas n ps ks outs h y x).isSome:=funext λy=>funext λx=>z y x
 obtain rfl:g=λy x=>(itB E keep f gas n ps ks outs h y x).getD (bQ outs,fK h):=funext λy=>funext λx=>C y x
 exact ZH u B
abbrev aw:=AV×List AO
def Tr.map{α β:Type}(f:α->β):Tr α->Tr β
 |.err=>.err
 |.chk c t=>.chk c (t.map f)
 |.br c t e=>.br c (t.map f) (e.map f)
 |.ok a=>.ok (f a)
theorem Tr.val_map{α β:Type}(f:α->β):∀t:Tr α,(t.map f).val=t.val.map f
 |.err=>rfl
 |.chk c t=>by simp only[Tr.map,Tr.val,val_map f t];split<;>rfl
 |.br c t e=>by simp only[Tr.map,Tr.val,val_map f t,val_map f e];split<;>rfl
 |.ok _=>rfl
abbrev Tr.to{σ:Type}(s:σ):Tr (σ⊕aw):=.ok (.inl s)
abbrev Tr.re{σ:Type}(v:AV)(h:List AO):Tr (σ⊕aw):=.ok (.inr (v,h))
def dh{σ:Type}(t:σ->Tr (σ⊕aw)):Nat->σ->Option aw
 |0,_=>Q2
 | n+1,s=>match (t s).val with
  |some (.inl h)=>dh t n h
  |some (.inr r)=>Q1 r
  |none=>Q2
def dd{σ:Type}(t:σ->Tr (σ⊕aw))(n:Nat)(i:Tr (σ⊕aw)):Option aw:=match i.val with
 |some (.inl s)=>dh t n s
 |some (.inr r)=>Q1 r
 |none=>Q2
def lf{σ:Type}(f:Func)(e:σ->Nat×St):σ⊕aw->zF
 |.inl s=>.head (e s).1 (aj f (e s).1) (e s).2
 |.inr r=>.ret r.1 r.2
def e0:Empty->Nat×St:=λx=>nomatch x
def t0:Empty->Tr (Empty⊕aw):=λx=>nomatch x
section
variable {σ:Type} {E:bY} {n0:Nat} {keep:Nat->aM} {f:Func} {gas:Nat} {e:σ->Nat×St} {t:σ->Tr (σ⊕aw)}
theorem P8(h:∀s,run E n0 keep f.results.toList gas (aj f (e s).1) (e s).2=(t s).map (lf f e)):∀(n:Nat)(s:σ),vz E n0 keep f gas n (aj f (e s).1) (e s).2=dh t n s
 |0,_=>rfl
 | n+1,s=>by
  rw[vz,h s,Tr.val_map,dh];cases(t s).val with
  |none=>rfl
  | some l=>
   cases l with
   |inl o=>exact P8 h n o
   |inr r=>rfl
theorem oy(o:∀s,run E n0 keep f.results.toList gas (aj f (e s).1) (e s).2=(t s).map (lf f e)){K:List Item}{st:St}{i:Tr (σ⊕aw)}(h:run E n0 keep f.results.toList gas K st=i.map (lf f e))(n:Nat):vz E n0 keep f gas (n+1) K st=dd t n i:=by
 rw[vz,h,Tr.val_map,dd];cases i.val with
 |none=>rfl
 | some l=>
  cases l with
  |inl s=>exact P8 o n s
  |inr r=>rfl
end
def an{σ:Type}(outs:List Sh)(t:σ->Tr (σ⊕aw))(n:Nat)(i:Tr (σ⊕aw)):Option (zz (outs.map Q1)):=(dd t n i).bind λr=>aI r.2 outs r.1
theorem kU{P:Program}{z:Nat->AV}{σ:Type}{E:bY}{k:FuncId}{f:Func}{ks outs:List Sh}{keep:Nat->aM}{gas n:Nat}{e:σ->Nat×St}{t:σ->Tr (σ⊕aw)}{i:zz (ks.map Q1)->Tr (σ⊕aw)}{c:zz (ks.map Q1)->Bool}{g:zz (ks.map Q1)->zz (outs.map Q1)}
  (B:zw E) (D:zO E.P k f (Io ks)) (o:∀x,run E 0 keep f.results.toList gas (bC f) (bj f.ntmps (jD (ks.map Q1) x) [])=(i x).map (lf f e))
  (u:∀s,run E 0 keep f.results.toList gas (aj f (e s).1) (e s).2=(t s).map (lf f e))
  (C:∀x,c x=(an outs t n (i x)).isSome) (F:∀x,g x=(an outs t n (i x)).getD (bQ outs)) (H:E.P=P:=by rfl) (G:E.gl=z:=by rfl):pp P z k (zT ks outs c g):=by
 subst H G;have h:∀x,itO E keep f gas (n+1) ks outs x=an outs t n (i x):=by
  intro x;unfold itO an;rw[oy u (o x)]
 exact ZI (n:=n+1) B D (λx=>by rw[h,C]) (λx=>by rw[h,F])
theorem zbw{σ:Type}{E:bY}{C:fg}{k:FuncId}{f:Func}{outs:List Sh}{m n0 n gas:Nat}{keep:Nat->aM}{e:σ->Nat×St}{t:σ->Tr (σ⊕aw)}{i:Tr (σ⊕aw)}{K:List Item}{st:St}{y:zz (outs.map Q1)}(F:zw E)(G:zO E.P k f m)(D:∀id,n0<=id->C.ρ0 id=Q2)
  (o:run E n0 keep f.results.toList gas K st=i.map (lf f e)) (u:∀s,run E n0 keep f.results.toList gas (aj f (e s).1) (e s).2=(t s).map (lf f e)) (h:an outs t n i=Q1 y):Reach E C k K st (λr h=>aI h outs r=Q1 y):=by
 unfold an at h;rw[gp]at h;obtain⟨r,z,B⟩:=h;rw[<-oy u o n]at z;exact ql F G D (n+1) _ _ r z B
abbrev k0:Nat->aM:=λ_=>{ }
abbrev lu:List (Nat×List Nat)->Nat->aM
 |[],_=>{ }
 |p::r,j=>if j=p.1 then{slots:=p.2}else lu r j
def o1{a:Sh}(o:Option (zz [Q1 a])):Sem a:=(o.getD (bQ [a])).1
def o2{a b:Sh}(o:Option (zz [Q1 a,Q1 b])):Sem a×Sem b:=((o.getD (bQ [a,b])).1,(o.getD (bQ [a,b])).2.1)
def o3{a b c:Sh}(o:Option (zz [Q1 a,Q1 b,Q1 c])):Sem a×Sem b×Sem c:=((o.getD (bQ [a,b,c])).1,(o.getD (bQ [a,b,c])).2.1,(o.getD (bQ [a,b,c])).2.2.1)
def FT(ks outs:List Sh)(o:zz (ks.map Q1)->Option (zz (outs.map Q1))):ac:=zT ks outs (λx=>(o x).isSome) λx=>(o x).getD (bQ outs)
theorem zw.T1{P:Program}{u:Nat->AV}{σ:Type}{E:bY}{k:FuncId}{f:Func}{ks outs:List Sh}{keep:Nat->aM}{n:Nat}{e:σ->Nat×St}{t:σ->Tr (σ⊕aw)}{i:zz (ks.map Q1)->Tr (σ⊕aw)}(z:zw E)(gas:Nat:=400)
  (B:(E.P.funcs[k]?,f.name=="runtime.NumGoroutine",f.body.isNone,Q0 (ks.length<=f.ntmps))=(Q1 f,Q4,Q4,Q3):=by kernel_rfl)
  (h:∀x,run E 0 keep f.results.toList gas (bC f) (bj f.ntmps (jD (ks.map Q1) x) [])=(i x).map (lf f e):=by intro x;kernel_rfl)
  (o:∀s,run E 0 keep f.results.toList gas (aj f (e s).1) (e s).2=(t s).map (lf f e):=by intro s;cases s<;>kernel_rfl) (D:E.P=P:=by rfl) (C:E.gl=u:=by rfl):pp P u k (FT ks outs λx=>an outs t n (i x)):=by
 subst D C;exact kU z (bU B) h o (λ_=>rfl) λ_=>rfl
theorem Xd(E:bY)(n0:Nat)(keep:Nat->aM)(f:Func)(gas:Nat):∀s,run E n0 keep f.results.toList gas (aj f (e0 s).1) (e0 s).2=(t0 s).map (lf f e0):=λs=>nomatch s
def kA{σ:Type}(outs:List Sh)(h:List CP)(t:σ->Tr (σ⊕aw))(n:Nat)(i:Tr (σ⊕aw)):Option (zz (outs.map Q1)×zm h):=(dd t n i).bind λr=>tF h outs r.1 r.2
theorem kd{P:Program}{B:Nat->AV}{σ:Type}{E:bY}{k:FuncId}{f:Func}{ps:List CP}{ks outs:List Sh}{o:List CP}{keep:Nat->aM}{gas n:Nat}{e:σ->Nat×St}{t:σ->Tr (σ⊕aw)}{i:zm ps->zz (ks.map Q1)->Tr (σ⊕aw)}{c:zm ps->zz (ks.map Q1)->Bool}{g:zm ps->zz (ks.map Q1)->zz (outs.map Q1)×zm o}
  (C:zw E) (F:zO E.P k f (Io ks+1)) (u:∀y x,run E (ba ps+1) keep f.results.toList gas (bC f) (bj f.ntmps (.ptr 0 0::jD (ks.map Q1) x) (ay ps y))=(i y x).map (lf f e))
  (z:∀s,run E (ba ps+1) keep f.results.toList gas (aj f (e s).1) (e s).2=(t s).map (lf f e))
  (D:∀y x,c y x=(kA outs o t n (i y x)).isSome) (G:∀y x,g y x=(kA outs o t n (i y x)).getD (bQ outs,fK o)) (I:E.P=P:=by rfl) (H:E.gl=B:=by rfl):pp P B k (sE ps ks outs o c g):=by
 subst I H;have h:∀y x,itB E keep f gas (n+1) ps ks outs o y x=kA outs o t n (i y x):=by
  intro y x;unfold itB kA;rw[oy z (u y x)]
 exact T2 (n:=n+1) C F (λy x=>by rw[h,D]) (λy x=>by rw[h,G])
open Tr (chk br re)
theorem PE(hp:Nat->AO)(e:Sh)(l:List (Sem e)):xj hp e (.sl e l)=Q1 l:=by
 simp[xj]
theorem kk(hp:Nat->AO):∀(s:Sh)(x:Sem s)(r:List AV),cU hp s (zu s x++r)=Q1 (x,r)
 |.unit,_,_=>rfl
 |.bool,_,_=>rfl
 |.int k,n,r=>by simp[zu,cU]
 |.str,_,_=>rfl
 | .sl e,l,r=>by
  show(match xj hp e (.sl e l)with|some l=>Q1 (l,r)|none=>Q2)=_;rw[PE]
 | .pr a b,x,r=>by
  simp only[zu,cU,uF,kk hp a,kk hp b]
 | .expr,e,r=>by
  show vu hp _=_;simp only[zu,List.cons_append,pK,vu,PE];rw[show zf.mk e.op (e.v.1,e.v.2.1,e.v.2.2) e.s e.l=e from zf.eta e]
theorem jF{hp:Nat->AO}:∀(ps:List CP)(n:Nat)(y:zm ps),(∀(j:Nat) o,(gw ps y)[j]?=Q1 o->hp (n+j)=o)->cF hp n ps (eK n ps y)=Q1 y
 |[],_,_,_=>rfl
 | .d s::r,n,y,h=>by
  simp only[eK,cF,kk];rw[jF r n y.2 h]
 | .nil::r,n,y,h=>by
  simp only[eK,cF];exact jF r n y h
 | .vec e::r,n,y,h=>by
  have u:=h 0 (.vec e y.1) rfl;simp only[Af]at u;simp only[eK,cF,if_true,u,dite_true]
  rw[jF r (n+1) y.2 (λj o z=>by
   have:=h (j+1) o (by simpa[gw]using z);rw[<-this];congr 1;omega)]
theorem dg{ps:List CP}{outs:List Sh}{r:AV}{a:zz (outs.map Q1)}(y:zm ps)(h:aI [] outs r=Q1 a):tF ps outs r (ay ps y)=Q1 (a,y):=by
 unfold tF ay;simp only[bP,if_true,h]
 rw[jF ps 1 y (λj o u=>by
  unfold kj;rw[pd,Cl,aU,u];rfl)]
section
variable {σ:Type} {t:σ->Tr (σ⊕aw)}
theorem dz{β:Type}(N:Nat)(st:β->Nat->σ)(I:β->Nat->Prop)(Φ:aw->Prop)(M:Nat)
  (o:∀b i,i<N->I b i->(∃z,I z (i+1)/\(t (st b i)).val=Q1 (.inl (st z (i+1))))\/∃r,(t (st b i)).val=Q1 (.inr r)/\Φ r)
  (u:∀b n,I b N->M<=n->∃r,dh t n (st b N)=Q1 r/\Φ r):
  ∀(m i:Nat)(b:β)(n:Nat),N-i=m->i<=N->I b i->M+m<=n->∃r,dh t n (st b i)=Q1 r/\Φ r
 | 0,i,b,n,H,G,D,J=>by
  obtain rfl:i=N:=by omega
  exact u b n D ow
 | m+1,i,b,n,H,G,D,J=>by
  obtain⟨n,rfl⟩:∃k,n=k+1:=⟨n-1,ow⟩;rcases o b i ow D with⟨z,F,h⟩|⟨r,B,C⟩
  ·obtain⟨r,B,C⟩:=dz N st I Φ M o u m (i+1) z n ow ow F ow;exact⟨r,by rw[dh,h];exact B,C⟩
  ·exact⟨r,by rw[dh,B],C⟩
theorem cO{n:Nat}{s:σ}:dh t (n+1) s=match(t s).val with
  |some (.inl h)=>dh t n h
  |some (.inr r)=>Q1 r
  |none=>Q2:=rfl
end
theorem jK.cells{C:fg}{w:World}{U:Nat->Prop}{ρ:Nat->Option Value}{hp:Nat->AO}{k:Nat}{cs cs':List AV}(z:jK C w U ρ hp)(F:hp k=.box cs)
  (O:∀vals,dB w U ρ cs vals->dB w U ρ cs' vals):jK C w U ρ (λj=>if j=k then .box cs' else hp j):=by
 have u:∀id b,ar ρ id (ite (id=k) (.box cs') (hp id)) b->ar ρ id (hp id) b:=by
  intro id b ho;by_cases h:id=k
  ·subst h;rw[if_pos rfl]at ho;rw[F];obtain⟨_,v,S,M⟩:=ho;exact⟨rfl,v,S,M⟩
  ·rw[if_neg h]at ho;exact ho
 refine⟨λid=>?_,λid1 B b o1 o2=>z.inj id1 B b (u _ _ o1) (u _ _ o2),λid b o=>z.blk id b (u _ _ o)⟩;by_cases h:id=k
 ·subst h;have D:=z.ob id;rw[F]at D;obtain⟨b,T,vals,G,H,I,J,L⟩:=D;simp only[if_true];exact⟨b,T,vals,G,H,I,O _ J,L⟩
 ·simp only[if_neg h];exact z.ob id
def cu(ps h:List CP)(y:zm ps)(z:zm h):List AO:=.box (eK 2 ps y)::.box (eK (2+ba ps) h z)::(gw ps y++gw h z)
theorem pU(ps h:List CP)(y:zm ps)(z:zm h):(cu ps h y z).length=ba ps+ba h+2:=by
 simp[cu,bP]
theorem jK.box2{C:fg}{w:World}{U:Nat->Prop}{ρ:Nat->Option Value}{cs D:List AV}{os:List AO}{ps u:List CP}{y:zm ps}{z:zm u}(G:jK C w U ρ (λj=>((Qa cs::Qa D::os).getD j .dead)))(hl:Io os=ba ps+ba u)
  (H:cF (kj (.box cs::.box D::os)) 2 ps cs=Q1 y) (F:cF (kj (.box cs::.box D::os)) (2+ba ps) u D=Q1 z):jK C w U ρ (λj=>(cu ps u y z).getD j .dead):=by
 have I:=G.cells (k:=0) (cs:=cs) (cs':=eK 2 ps y) rfl (λB h=>(fJ ps 2 cs y B H h).1);have J:=I.cells (k:=1) (cs:=D) (cs':=eK (2+ba ps) u z) rfl (λB h=>(fJ u _ D z B F h).1);obtain⟨b0,Z,X,_,_,_,T,_⟩:=G.ob 0;obtain⟨b1,T1,Y,_,_,_,W,_⟩:=G.ob 1;have O:=(fJ ps 2 cs y X.toList H T).2;have S:=(fJ u _ D z Y.toList F W).2;have e:(λj=>(cu ps u y z).getD j .dead)=λj=>if j=1 then .box (eK (2+ba ps) u z)else if j=0 then .box (eK 2 ps y)else(Qa cs::Qa D::os).getD j .dead:=by
  funext j
  match j with
  |0=>rfl
  |1=>rfl
  | j+2=>
   rw[if_neg ow,if_neg ow];simp only[cu,Cl];by_cases L:j<ba ps
   ·have o:j<(gw ps y).length:=by rw[bP];exact L
    have:=O j _ (zU o);simp only[kj,pd 2 j,Cl]at this;rw[this,aU,mS o,zU o];rfl
   ·by_cases M:j<ba ps+ba u
    ·have o:j-ba ps<(gw u z).length:=by rw[bP];omega
     have:=S (j-ba ps) _ (zU o);rw[show 2+ba ps+(j-ba ps)=j+2 by omega]at this;simp only[kj,Cl]at this;rw[this,aU,pu (by rw[bP];omega),bP,zU o];rfl
    ·rw[aU,aU,eB (by simp[bP];omega),eB ow]
 rw[e];exact J
def Bf(ps o:List CP)(outs:List Sh)(r:AV)(h:List AO):Option (zz (outs.map Q1)×zm ps×zm o):=match h with
 | .box cs::.box ds::os=>if Io os=ba ps+ba o then match aI [] outs r,cF (kj (.box cs::.box ds::os)) 2 ps cs,cF (kj (.box cs::.box ds::os)) (2+ba ps) o ds with
   |some a,Q1 y,Q1 z=>Q1 (a,y,z)
   |_,_,_=>Q2
  else Q2
 |_=>Q2
def zda(ps B:List CP)(ks outs:List Sh)(o u:List CP)(c:zm ps->zm B->zz (ks.map Q1)->Bool)(g:zm ps->zm B->zz (ks.map Q1)->zz (outs.map Q1)×zm o×zm u):iV (Q2::Q2::ks.map Q1):=λx h=>match x.1,x.2.1,h with
 | .ptr 0 0,.ptr 1 0,.box cs::.box ds::os=>if Io os=ba ps+ba B then match cF (kj (.box cs::.box ds::os)) 2 ps cs,cF (kj (.box cs::.box ds::os)) (2+ba ps) B ds with
   |some y,Q1 z=>.chk (c y z x.2.2) (.ok (wz outs (g y z x.2.2).1,cu o u (g y z x.2.2).2.1 (g y z x.2.2).2.2))
   |_,_=>.err
  else .err
 |_,_,_=>.err
def Uq(ps qs:List CP)(ks outs:List Sh)(h o:List CP)(c:zm ps->zm qs->zz (ks.map Q1)->Bool)(g:zm ps->zm qs->zz (ks.map Q1)->zz (outs.map Q1)×zm h×zm o):ac:=bp (Q2::Q2::ks.map Q1) (zda ps qs ks outs h o c g)
theorem T0{P:Program}{gl:Nat->AV}{E:bY}{k:FuncId}{f:Func}{ps I:List CP}{ks outs:List Sh}{H J:List CP}{c:zm ps->zm I->zz (ks.map some)->Bool}{g:zm ps->zm I->zz (ks.map some)->zz (outs.map some)×zm H×zm J}(hf:zO E.P k f (Io ks+2))
  (h:∀y z x,c y z x=Q3->∀C:fg,(∀id,ba ps+ba I+2<=id->C.ρ0 id=Q2)->Reach E C k (bC f) (bj f.ntmps (.ptr 0 0::.ptr 1 0::jD (ks.map Q1) x) (cu ps I y z)) (λr h=>Bf H J outs r h=Q1 (g y z x))) (qp:E.P=P:=by rfl) (qg:E.gl=gl:=by rfl):
  pp P gl k (Uq ps I ks outs H J c g):=by
 subst qp qg;refine dV (by simpa using hf) λx h0 h9 u C hC=>?_
 obtain⟨x0,x1,x⟩:=x;unfold zda at u;simp only at u;split at u
 ·rename_i cs ds os;split at u
  ·rename_i G;split at u
   ·rename_i y z hy hz;simp only[Tr.val]at u;split at u
    ·rename_i hc;simp only[bH]at u;subst u;have hR:=h y z x hc C (λid o=>hC id (by simpa[G]using o));intro b O a w U ρ h1 h2 B hW;have hH:jK C w U ρ (λj=>((Qa cs::Qa ds::os).getD j .dead)):=B.hp
     have L:Cn C (bj f.ntmps (.ptr 0 0::.ptr 1 0::jD (ks.map Q1) x) (cu ps I y z)) a w U ρ:=
      ⟨B.tm,hH.box2 G hy hz,λid o=>B.new id (by have o:(cu ps I y z).length<=id:=o;rw[pU]at o;simpa[bj,G]using o),B.df,B.r0⟩
     obtain⟨e,w',fr,⟨v,r,h',U',ρ',he,D,h3,S,M,Z,T⟩,X,Y,hl⟩:=hR b O a w U ρ h1 h2 L hW;unfold Bf at D;split at D
     ·rename_i h6 h7 h8;split at D
      ·rename_i F;split at D
       ·rename_i a' y' z' W h4 h5;simp only[bH]at D;refine⟨e,w',fr,⟨v,_,_,U',ρ',he,by rw[<-D],HL W h3,S.box2 F h4 h5,λid o=>M id (by rw[pU]at o;simpa[F]using o),Z,T⟩,X,Y,hl⟩
       ·cases D
      ·cases D
     ·cases D
    ·simp at u
   ·simp at u
  ·simp at u
 ·simp at u
def QD{σ:Type}(outs:List Sh)(h o:List CP)(t:σ->Tr (σ⊕aw))(n:Nat)(i:Tr (σ⊕aw)):Option (zz (outs.map Q1)×zm h×zm o):=(dd t n i).bind λr=>Bf h o outs r.1 r.2
theorem zgu{P:Program}{I:Nat->AV}{σ:Type}{E:bY}{k:FuncId}{f:Func}{ps qs:List CP}{ks outs:List Sh}{o B:List CP}{keep:Nat->aM}{gas n:Nat}{e:σ->Nat×St}{t:σ->Tr (σ⊕aw)}{i:zm ps->zm qs->zz (ks.map Q1)->Tr (σ⊕aw)}{c:zm ps->zm qs->zz (ks.map Q1)->Bool}{g:zm ps->zm qs->zz (ks.map Q1)->zz (outs.map Q1)×zm o×zm B}
  (S:zw E) (J:zO E.P k f (Io ks+2)) (G:∀y z x,run E (ba ps+ba qs+2) keep f.results.toList gas (bC f) (bj f.ntmps (.ptr 0 0::.ptr 1 0::jD (ks.map Q1) x) (cu ps qs y z))=(i y z x).map (lf f e))
  (H:∀s,run E (ba ps+ba qs+2) keep f.results.toList gas (aj f (e s).1) (e s).2=(t s).map (lf f e))
  (T:∀y z x,c y z x=(QD outs o B t n (i y z x)).isSome) (W:∀y z x,g y z x=(QD outs o B t n (i y z x)).getD (bQ outs,fK o,fK B)) (Y:E.P=P:=by rfl) (X:E.gl=I:=by rfl):pp P I k (Uq ps qs ks outs o B c g):=by
 subst Y X;refine T0 J λy z x D C O=>?_
 rw[T,Option.isSome_iff_exists]at D;obtain⟨u,F⟩:=D;rw[W,F];unfold QD at F;rw[gp]at F;obtain⟨r,L,M⟩:=F;exact ql (Q:=λr h=>Bf o B outs r h=Q1 u) S J O (n+1) _ _ r (by rw[oy H (G y z x)];exact L) M
section
variable {σ:Type} {t:σ->Tr (σ⊕aw)}
def zV(t:σ->Tr (σ⊕aw))(k:Nat)(s:σ)(r:aw):Prop:=∀n,k<=n->dh t n s=Q1 r
def zL(t:σ->Tr (σ⊕aw))(m:Nat)(s s':σ):Prop:=∀k r,zV t k s' r->zV t (k+m) s r
theorem zV.mono{k o:Nat}{s:σ}{r:aw}(h:zV t k s r)(u:k<=o):zV t o s r:=λn z=>h n ow
theorem zV.of{s:σ}{r:aw}(h:(t s).val=Q1 (.inr r)):zV t 1 s r:=by
 intro n o;obtain⟨n,rfl⟩:∃k,n=k+1:=⟨n-1,ow⟩;rw[dh,h]
theorem zL.of{s s':σ}(h:(t s).val=Q1 (.inl s')):zL t 1 s s':=by
 intro k r o n u;obtain⟨n,rfl⟩:∃k,n=k+1:=⟨n-1,ow⟩;rw[dh,h];exact o n ow
theorem zL.refl(s:σ):zL t 0 s s:=λ_ _ h=>h
theorem zL.trans{a b:Nat}{s s' o:σ}(u:zL t a s s')(z:zL t b s' o):zL t (b+a) s o:=λk r h=>(u _ _ (z k r h)).mono ow
theorem zL.mono{a b:Nat}{s s':σ}(h:zL t a s s')(u:a<=b):zL t b s s':=λk r o=>(h k r o).mono ow
theorem zL.ends{a k:Nat}{s s':σ}{r:aw}(h:zL t a s s')(o:zV t k s' r):zV t (k+a) s r:=h k r o
theorem zL.all(m:Nat)(st:Nat->σ):∀(N:Nat),(∀i,i<N->zL t m (st i) (st (i+1)))->zL t (N*m) (st 0) (st N)
 |0,_=>(zL.refl _).mono ow
 |N+1,h=>((zL.all m st N λi o=>h i ow).trans (h N ow)).mono (by rw[nT];omega)
theorem mK{Φ:aw->Prop}(m:Nat)(st:Nat->σ)(P:Nat->Prop):∀(N:Nat),(∀i,i<N->(∀j,j<i->P j)->(P i/\zL t m (st i) (st (i+1)))\/(¬P i/\∃r,zV t m (st i) r/\Φ r))->
  ((∀i,i<N->P i)/\zL t (N*m) (st 0) (st N))\/((¬∀i,i<N->P i)/\∃r,zV t (N*m) (st 0) r/\Φ r)
 |0,_=>.inl ⟨λi o=>absurd o ow,(zL.refl _).mono ow⟩
 | N+1,h=>by
  rcases mK m st P N λi o=>h i ow with⟨u,z⟩|⟨u,r,z,D⟩
  ·rcases h N ow u with⟨B,C⟩|⟨B,r,C,F⟩
   ·refine .inl ⟨λi o=>?_,(z.trans C).mono (by rw[nT];omega)⟩;rcases Nat.lt_succ_iff_lt_or_eq.1 o with o|rfl
    ·exact u i o
    ·exact B
   ·exact .inr ⟨λh=>B (h N ow),r,(z.ends C).mono (by rw[nT];omega),F⟩
  ·exact .inr ⟨λh=>u λi o=>h i ow,r,z.mono (by rw[nT];omega),D⟩
theorem zy{outs:List Sh}{n k:Nat}{i:Tr (σ⊕aw)}{s:σ}{r:aw}{y:zz (outs.map Q1)}(o:i.val=Q1 (.inl s))(h:zV t k s r)(u:k<=n)(z:aI r.2 outs r.1=Q1 y):an outs t n i=Q1 y:=by
 unfold an dd;rw[o];show(dh t n s).bind _=_;rw[h n u];exact z
theorem zH{outs:List Sh}{n:Nat}{i:Tr (σ⊕aw)}{r:aw}{y:zz (outs.map Q1)}(h:i.val=Q1 (.inr r))(o:aI r.2 outs r.1=Q1 y):an outs t n i=Q1 y:=by
 unfold an dd;rw[h];exact o
theorem Xo{outs:List Sh}{ps:List CP}{n:Nat}{i:Tr (σ⊕aw)}{r:aw}{y:zz (outs.map Q1)×zm ps}(h:i.val=Q1 (.inr r))(o:tF ps outs r.1 r.2=Q1 y):kA outs ps t n i=Q1 y:=by
 unfold kA dd;rw[h];exact o
end
noncomputable section
theorem Reach.lenA{E:bY}{C:fg}{F:FuncId}{o:List Item}{st:St}{Q:AV->List AO->Prop}(j c:Nat)(e:Sh)(l:List (Sem e)){cs:List AV}(G:st.tmps[j]?=Q1 (.agg cs))(H:cs[c]?=Q1 (.sl e l))(h:Io l<=aF->Reach E C F o st Q):Reach E C F o st Q:=by
 intro b z a w U ρ M O B I;refine h ?_ b z a w U ρ M O B I;have u:j<a.tmps.toList.length:=by rw[<-B.tm.len];exact(dp.1 G).1
 have:=B.tm.rv j _ _ G (zU u);generalize a.tmps.toList[j]=v at this;cases this with
 |agg _ vs D _ L=>
 have u:c<Io vs:=by rw[<-D];exact(dp.1 H).1
 have:=L c _ _ H (zU u);generalize vs[c]=v at this;cases this with
 |sl0=>simp
 |sl _ _ _ _ _ _ _ J=>exact J
abbrev znC:Nat->aM:=λj=>if j=3 then{slots:=[0,3,4],prom:=[(3,Q2,ze)]}else{ }
inductive RA where
 |h3 (l0:List (Sem ze)) (i4:Int) (lh_0:List (Sem ze))
abbrev zqu:RA->Nat×St
 |.h3 u o h=>(3,⟨tm 24 [(0,sl ze u),(3,AV.vec 0),(4,ai o)],[AO.vec ze h]⟩)
def zr0(h:Sem ze.sl):Tr (RA⊕aw):=Tr.to (RA.h3 h 0 [])
def zbK:RA->Tr (RA⊕aw)
 | .h3 u o h=>
  let z:=u.getD o.toNat (zi ze)
  let B:=[FL z]
  br (cond (Q0 (o<(↑u.length:Int))) (Q0 (o<14)) Q4)
  (chk (zJ o (Io u)) (chk (Nb z) (chk (Q0 (Io h+Io B<=1073741824)) (Tr.to (RA.h3 u (Γ Δ (o+1)) (h++B))))))
  (re (AV.vec 0) [AO.vec ze h])
def zop(h:Sem ze.sl):=an [ze.sl] zbK 100000000 (zr0 h)
def zjv:=FT [ze.sl] [ze.sl] λx=>zop x.1
theorem TP:FK 43 zjv:=xw.T1 (f:=Tryz.f43) (keep:=znC) (e:=zqu)
abbrev znU:Nat->aM:=λj=>if j=3 then{slots:=[0,3,4],prom:=[(3,Q2,zj)]}else{ }
inductive Ns where
 |h3 (l0:List (Sem zj)) (i4:Int) (lh_0:List (Sem zj))
abbrev zqI:Ns->Nat×St
 |.h3 u o h=>(3,⟨tm 33 [(0,sl zj u),(3,AV.vec 0),(4,ai o)],[AO.vec zj h]⟩)
def zr5(h:Sem zj.sl):Tr (Ns⊕aw):=Tr.to (Ns.h3 h 0 [])
def zbO:Ns->Tr (Ns⊕aw)
 | .h3 u o h=>
  let z:=u.getD o.toNat (zi zj)
  let B:=(↑(Io z.1):Int)
  let C:=[(Qg (toNat 20-toNat 0) (Qh (toNat 0) z.1),z.2)]
  let D:=Γ Δ (o+1)
  let F:=[z]
  br (cond (Q0 (o<(↑u.length:Int))) (Q0 (o<9)) Q4)
  (chk (zJ o (Io u)) (br (Q0 (B>20)) (chk (Q0 (0<=0)&&Q0 (0<=20)&&Q0 (20<=B)) (chk (Q0 (Io h+Io C<=1073741824)) (Tr.to (Ns.h3 u D (h++C))))) (chk (Q0 (Io h+Io F<=1073741824)) (Tr.to (Ns.h3 u D (h++F))))))
  (re (AV.vec 0) [AO.vec zj h])
def zoo(h:Sem zj.sl):=an [zj.sl] zbO 100000000 (zr5 h)
def zj5:=FT [zj.sl] [zj.sl] λx=>zoo x.1
theorem TW:FK 42 zj5:=xw.T1 (f:=Tryz.f42) (keep:=znU) (e:=zqI)
def mi(l:Sem ze.sl):Sem ze.sl:=(Qg 14 l).map FL
def jS(l:Sem zj.sl):Sem zj.sl:=(Qg 9 l).map λc:Sem zj=>((jA c.1,c.2):Sem zj)
theorem wS(k:Nat){α:Type}(l:List α):l.take (min k (Io l))=l.take k:=by
 rcases Nat.le_total k (Io l)with h|h
 ·rw[F6 h]
 ·rw[F5 h,fI,Cj h]
theorem za3{i k n:Nat}{K:Int}(z:K=(k:Int))(h:i<min k n):(cond (Q0 ((i:Int)<(n:Int))) (Q0 ((i:Int)<K)) Q4)=Q3:=by
 have o:(i:Int)<n:=by omega
 have u:(i:Int)<K:=by omega
 rw[zx o,zx u];rfl
theorem Qn{k:Nat}{K:Int}(o:K=(k:Int))(n:Nat):(cond (Q0 (((min k n:Nat):Int)<(n:Int))) (Q0 (((min k n:Nat):Int)<K)) Q4)=Q4:=by
 rcases Nat.le_total k n with h|h
 ·rw[F6 h,o];simp
 ·rw[F5 h];simp
theorem Kg{α:Type}{l:List α}{i:Nat}(h:i<Io l)(d:α):l.take (i+1)=l.take i++[l.getD i d]:=by
 rw[List.take_add_one,zU h,aU,zU h];rfl
def K8:=zdc.addL [(43,zjv),(42,zj5)]
theorem xx:zw K8:=xw.addL<|fc TP<|fc TW iA
end
theorem nS{P:Program}{o:Nat->AV}{k:FuncId}{ks outs:List Sh}{c:zz (ks.map Q1)->Bool}{g:zz (ks.map Q1)->zz (outs.map Q1)}(h:pp P o k (zT ks outs c g))(u:∀x,c x=Q3):pp P o k (aH ks outs g):=
 Py (by rwa [show c=λ_=>Q3 from funext u]at h)
theorem Fa(v:V):Nb v=Q3:=by
 unfold Nb;cases h:Q0 ((↑(Io v.2.2):Int)>60)
 ·rfl
 ·simp only[aN]at h;simp only[zY,aE,aN];omega
theorem O6(s:zD):Rg s=Q3:=by
 unfold Rg;cases h:Q0 ((↑(Io s):Int)>20)
 ·rfl
 ·simp only[aN]at h;simp only[zY,aE,aN];omega
theorem SP(l:List (Sem ze)):zop l=Q1 (mi l,()):=by
 have g:=zL.all (t:=zbK) 1 (λi=>.h3 l (i:Int) ((Qg i l).map FL)) (min 14 (Io l)) λi o=>zL.of (by
  have h:i<Io l:=by omega
  have u:Q0 ((List.map FL (Qg i l)).length+[FL (l.getD i (zi ze))].length<=1073741824)=Q3:=by simp;omega
  simp only[zbK,Tr.val,za3 (k:=14) (K:=14) rfl o,zt h,if_true,aD,Fa,u];rw[zr i um,Kg h (zi ze),gD];rfl)
 rw[wS]at g;refine zy rfl (g.ends (k:=1) (r:=(.vec 0,[.vec ze (mi l)])) (zV.of ?_)) ow rfl;simp only[zbK,Tr.val,Qn (k:=14) (K:=14) rfl,zA,if_false];rfl
theorem SN(l:List (Sem zj)):zoo l=Q1 (jS l,()):=by
 have g:=zL.all (t:=zbO) 1 (λi=>.h3 l (i:Int) ((Qg i l).map λc:Sem zj=>((jA c.1,c.2):Sem zj))) (min 9 (Io l)) λi B=>zL.of (by
  have z:i<Io l:=by omega
  have D:(Qg (i+1) l).map (λc:Sem zj=>((jA c.1,c.2):Sem zj))=(Qg i l).map (λc:Sem zj=>((jA c.1,c.2):Sem zj))++[(jA (List.getD l i (zi zj)).1,(List.getD l i (zi zj)).2)]:=by rw[Kg z (zi zj),gD];rfl
  have u:((Qg i l).map (λc:Sem zj=>((jA c.1,c.2):Sem zj))).length<=9:=by rw[cA,o9];omega
  rw[D];generalize(Qg i l).map (λc:Sem zj=>((jA c.1,c.2):Sem zj))=acc at u⊢;have C:Q0 (Io acc+1<=1073741824)=Q3:=zx ow;simp only[zbO,Tr.val,za3 (k:=9) (K:=9) rfl B,zt z,if_true,aD,dR,jc,ez,C];rw[zr i um];unfold jA;by_cases h:(Io (List.getD l i (zi zj)).1:Int)>20
  ·have o:Q0 ((20:Int)<=(Io (List.getD l i (zi zj)).1:Int))=Q3:=zx ow;simp only[zx h,o,if_true];rfl
  ·simp only[aq h,zA,if_false])
 rw[wS]at g;refine zy rfl (g.ends (k:=1) (r:=(.vec 0,[.vec zj (jS l)])) (zV.of ?_)) ow rfl;simp only[zbO,Tr.val,Qn (k:=9) (K:=9) rfl,zA,if_false];rfl
def zjw:ac:=aH [ze] [ze] λx=>(FL x.1,())
theorem ze1:FK 85 zjw:=nS zc2 λx=>Fa x.1
def zjn:ac:=aH [Q6] [Q6] λx=>(jA x.1,())
theorem zeU:FK 135 zjn:=nS zc1 λx=>O6 x.1
def F6t:ac:=aH [ze.sl] [ze.sl] λx=>(mi x.1,())
theorem zlz:FK 43 F6t:=g7 TP λx=>SP x.1
def zjr:ac:=aH [zj.sl] [zj.sl] λx=>(jS x.1,())
theorem zeY:FK 42 zjr:=g7 TW λx=>SN x.1
abbrev A3:Nat->aM:=λ_=>{slots:=[0,1,7,8]}
def oz{K:List Item}{e:Sh}(l:List (Sem e))(p:Sem e->Bool)(st:Int->St)(h:List AO)(i:Int):Tr zF:=.br (Q0 (i<(Io l:Int))) (.chk (zJ i (Io l)) (.br (p (l.getD i.toNat (zi e))) (.ok (.ret (.int .i64 i) h)) (.ok (.head 2 K (st (Γ Δ (i+1))))))) (.ok (.ret (.int .i64 (-1)) h))
theorem kR{E:bY}{C:fg}{k:FuncId}{f:Func}{n n0:Nat}{keep:Nat->aM}{u:Nat}{K:List Item}{e:Sh}(l:List (Sem e))(p:Sem e->Bool)(st:Int->St){D:List AO}
  (B:zw E) (G:zO E.P k f n) (F:∀id,n0<=id->C.ρ0 id=Q2)
  (z:∀i,run E n0 keep f.results.toList u K (st i)=oz (K:=K) l p st D i) (H:Io l<=aF):∀(m i:Nat),Io l-i=m->i<=Io l->
  Reach E C k K (st i) (λr h=>(r,h)=(.int .i64 (zW p (l.drop i) i),D)):=by
 intro m
 induction m with
 | zero=>
  intro i B.mix' hi;obtain rfl:i=Io l:=by omega
  refine zI B G F (z _) ?_;simp only[oz,Tr.val,zB,jM];rfl
 | succ m I=>
  intro i B.mix' hi;have o:i<Io l:=by omega
  refine zI B G F (z _) ?_;rw[fk o];simp only[oz,Tr.val,zE o,zt o,cL l _ o,zr i ow,if_true,zW];split
  ·rfl
  ·exact I (i+1) ow ow
abbrev BU(t:Int)(l:List (Sem zg))(i:Int):St:={tmps:=[.sl zg l,.clo (.func 297) [] [.ptr 0 0],.any,.any,.any,.any,.any,.int .i64 (Io l),.int .i64 i,.any,.any,.any,.any,.any,.any,.any,.any,.any,.any],heap:=[.box [.int .i64 t]]}
theorem Vw(t:Int)(l:List (Sem zg)):run K8 1 A3 Tryz.f327.results.toList 300 (bC Tryz.f327) (bj Tryz.f327.ntmps [.sl zg l,.clo (.func 297) [] [.ptr 0 0]] [.box [.int .i64 t]])=.ok (.head 2 (aj Tryz.f327 2) (BU t l 0)):=kw
theorem Xe(t:Int)(l:List (Sem zg))(i:Int):run K8 1 A3 Tryz.f327.results.toList 300 (aj Tryz.f327 2) (BU t l i)=oz (K:=aj Tryz.f327 2) (e:=zg) l (λx=>bif x !=t then x !=0 else Q4) (BU t l) [.box [.int .i64 t]] i:=kw
theorem WU:zO K8.P 327 Tryz.f327 2:=bU kw
def zl1:iV [Q1 (.sl zg),Q2]:=λx h=>match x,h with
 |(l,.clo (.func 297) [] [.ptr 0 0],_),[.box [.int .i64 t]]=>.ok (.int .i64 (zW (λx=>bif x !=t then x !=0 else Q4) l 0),[.box [.int .i64 t]])
 |_,_=>.err
def zi9:ac:=bp [Q1 (.sl zg),Q2] zl1
theorem zeG:FK 327 zi9:=by
 refine dV WU λx D B h C o=>?_
 unfold zl1 at h;split at h
 ·rename_i l u t;simp only[Tr.val_ok,bH]at h;subst h;refine Reach.len 0 zg l rfl λz=>?_
  refine zI (n0:=1) xx WU o (Vw t l) ?_;exact kR l (λx=>bif x !=t then x !=0 else Q4) (BU t l) xx WU o (Xe t l) z _ 0 rfl (aQ _)
 ·simp at h
noncomputable def uY:=K8.addL [(85,zjw),(135,zjn),(43,F6t),(42,zjr),(327,zi9)]
theorem mY:zw uY:=xx.addL<|fc ze1<|fc zeU<|fc zlz<|fc zeY<|fc zeG iA
noncomputable def F78:ac:=bp [Q1 (.sl zg),Q2] (fA uY Tryz.f296 [Q1 (.sl zg),Q2])
theorem zlF:FK 296 F78:=ch _ mY (bU kw)
def eh(h:Sem Q6):Sem Q7:=qT h
theorem zoF:zO uY.P 130 Tryz.f130 1:=bU kw
theorem zrg(h:Sem Q6):rn uY 0 (λ_=>{ }) Tryz.f130 [zC Q6 h] []=Tr.ok (zF.ret (AV.bool (qT h)) []):=kw
def F25:ac:=aH [Q6] [Q7] λx=>(eh x.1,())
theorem zkX:FK 130 F25:=by
 refine ag zoF λx C h=>?_
 refine aZ mY zoF (λid _=>h id) (zrg x.1) ?_;simp only[Tr.val,eh];repeat' split
 all_goals rfl
def zR(h:Sem zo)(o:Sem Q6):Sem zg:=zW (λc=>c.1==o) h.2.1 0
theorem zoB:zO uY.P 154 Tryz.f154 2:=bU kw
theorem zrc(h:Sem zo)(o:Sem Q6):rn uY 0 (λ_=>{ }) Tryz.f154 [zC zo h,zC Q6 o] []=Tr.ok (zF.ret (ai (zW (λc=>c.1==o) h.2.1 0)) []):=kw
def F17:ac:=aH [zo,Q6] [zg] λx=>(zR x.1 x.2.1,())
theorem zkS:FK 154 F17:=by
 refine ag zoB λx C h=>?_
 refine aZ mY zoB (λid _=>h id) (zrc x.1 x.2.1) ?_;simp only[Tr.val,zR];repeat' split
 all_goals rfl
def ap(h:Sem zj.sl)(o:Sem Q6):Sem zg:=zW (λc=>c.1==o) h 0
theorem zo0:zO uY.P 256 Tryz.f256 2:=bU kw
theorem zrz(h:Sem zj.sl)(o:Sem Q6):rn uY 0 (λ_=>{ }) Tryz.f256 [zC zj.sl h,zC Q6 o] []=Tr.ok (zF.ret (ai (zW (λc=>c.1==o) h 0)) []):=kw
def F48:ac:=aH [zj.sl,Q6] [zg] λx=>(ap x.1 x.2.1,())
theorem zlh:FK 256 F48:=by
 refine ag zo0 λx C h=>?_
 refine aZ mY zo0 (λid _=>h id) (zrz x.1 x.2.1) ?_;simp only[Tr.val,ap];repeat' split
 all_goals rfl
noncomputable def Gf:=uY.addL [(296,F78),(130,F25),(154,F17),(256,F48)]
theorem xy:zw Gf:=mY.addL<|fc zlF<|fc zkX<|fc zkS<|fc zlh iA
def mC(h:Sem zg.sl)(o:Sem zg):Sem Q7:=!Q0 (zW (λx=>bif x !=o then x !=0 else Q4) h 0>=0)
theorem zpa:zO Gf.P 257 Tryz.f257 2:=bU kw
theorem zrL(h:Sem zg.sl)(o:Sem zg):rn Gf 0 (λ_=>{ }) Tryz.f257 [zC zg.sl h,zC zg o] []=Tr.ok (zF.ret (AV.bool !Q0 (zW (λx=>bif x !=o then x !=0 else Q4) h 0>=0)) []):=kw
def F66:ac:=aH [zg.sl,zg] [Q7] λx=>(mC x.1 x.2.1,())
theorem zlx:FK 257 F66:=by
 refine ag zpa λx C h=>?_
 refine aZ xy zpa (λid _=>h id) (zrL x.1 x.2.1) ?_;simp only[Tr.val,mC];repeat' split
 all_goals rfl
def zQ(h:Sem Q6):Sem Q7:=bif eh h then !jy h else Q4
theorem zoA:zO Gf.P 219 Tryz.f219 1:=bU kw
theorem zrb(h:Sem Q6):rn Gf 0 (λ_=>{ }) Tryz.f219 [zC Q6 h] []=Tr.ok (zF.ret (AV.bool (cond (eh h) (!jy h) Q4)) []):=kw
def F16:ac:=aH [Q6] [Q7] λx=>(zQ x.1,())
theorem zkR:FK 219 F16:=by
 refine ag zoA λx C h=>?_
 refine aZ xy zoA (λid _=>h id) (zrb x.1) ?_;simp only[Tr.val,zQ];repeat' split
 all_goals rfl
noncomputable def U6:=Gf.addL [(257,F66),(219,F16)]
theorem Gg:zw U6:=xy.addL<|fc zlx<|fc zkR iA
theorem eX{P:Program}{B:Nat->AV}{k:FuncId}{ks outs:List Sh}{c:zz (ks.map Q1)->Bool}{g:zz (ks.map Q1)->zz (outs.map Q1)}(D:∃u,P.funcs[k]?=Q1 u/\(u.name=="runtime.NumGoroutine")=Q4/\u.body.isNone=Q4)(C:∀x,c x=Q4):pp P B k (zT ks outs c g):=by
 refine⟨D,?_⟩;intro w U ρ hp n args z f G h;exfalso;unfold zT bp at h;split at h
 ·simp only at h;split at h
  ·split at h
   ·simp only[Tr.val_bind,gp]at h;obtain⟨F,o,H⟩:=h;unfold eO at o;split at o
    ·simp only[Tr.val,C]at o;simp at o
    ·simp at o
   ·simp at h
  ·simp at h
 ·simp at h
theorem mN{Φ:zF->Prop}{c:Bool}{t f:Tr zF}(h:c=Q3->gC Φ t.val)(o:c=Q4->gC Φ f.val):gC Φ (br c t f).val:=by
 cases c
 ·simpa[Tr.val]using o rfl
 ·simpa[Tr.val]using h rfl
theorem mO{Φ:zF->Prop}{c:Bool}{t:Tr zF}(o:c=Q3)(h:gC Φ t.val):gC Φ (chk c t).val:=by
 subst o;simpa[Tr.val]using h
theorem zP{Φ:zF->Prop}{t:Tr zF}(h:gC Φ t.val):gC Φ (chk Q3 t).val:=h
theorem nr{c:Bool}(h:c=Q4):¬c=Q3:=by rw[h];simp
theorem rq{c g:Bool}(h:(ite (c=Q3) g Q4)=Q3):c=Q3/\g=Q3:=by
 split at h
 ·exact⟨‹_›,h⟩
 ·cases h
theorem vI{Φ:zF->Prop}{c:Bool}{t f:Tr zF}{α:Sort _}{a b y:α}{p q:Bool}(u:(ite (c=Q3) a b)=y)(o:(ite (c=Q3) p q)=Q3)(z:c=Q3->a=y->p=Q3->gC Φ t.val)(B:c=Q4->b=y->q=Q3->gC Φ f.val):gC Φ (Tr.br c t f).val:=
 mN (λh=>z h (by rwa [if_pos h]at u) (by rwa [if_pos h]at o)) (λh=>B h (by rwa [if_neg (nr h)]at u) (by rwa [if_neg (nr h)]at o))
theorem du{Φ:zF->Prop}{c:Bool}{t f:Tr zF}{α:Sort _}{a b y:α}(o:(ite (c=Q3) a b)=y)(u:c=Q3->a=y->gC Φ t.val)(z:c=Q4->b=y->gC Φ f.val):gC Φ (Tr.br c t f).val:=
 mN (λh=>u h (by rwa [if_pos h]at o)) (λh=>z h (by rwa [if_neg (nr h)]at o))
theorem iI{Φ:zF->Prop}{c g:Bool}{t:Tr zF}(o:(ite (c=Q3) g Q4)=Q3)(h:g=Q3->gC Φ t.val):gC Φ (Tr.chk c t).val:=
 mO (rq o).1 (h (rq o).2)
theorem Tr.val_brT{α:Type}(t f:Tr α):(br Q3 t f).val=t.val:=rfl
theorem Tr.val_brF{α:Type}(t f:Tr α):(br Q4 t f).val=f.val:=rfl
theorem Tr.val_chkT{α:Type}(t:Tr α):(chk Q3 t).val=t.val:=rfl
instance:Inhabited zf:=⟨.mk [] (0,0,[]) [] []⟩
instance (s:Sh):Inhabited (Sem s):=⟨zi s⟩
noncomputable def So(g:Sem Q5->Sem (Sh.sl zj)->Sem zg×Sem zg)(c:Sem Q5->Sem (Sh.sl zj)->Bool):bY:=U6.add 206 (zT [Q5,Sh.sl zj] [zg,zg] (λx=>c x.1 x.2.1) λx=>((g x.1 x.2.1).1,(g x.1 x.2.1).2,()))
theorem CZ{g:Sem Q5->Sem (Sh.sl zj)->Sem zg×Sem zg}{c:Sem Q5->Sem (Sh.sl zj)->Bool}(h:FK 206 (zT [Q5,Sh.sl zj] [zg,zg] (λx=>c x.1 x.2.1) λx=>((g x.1 x.2.1).1,(g x.1 x.2.1).2,()))):zw (So g c):=Gg.add h
abbrev zea:Nat->aM:=λj=>if j=3 then{slots:=[1,2,6,15,16,17],prom:=[(6,Q2,zg)]}else{ }
abbrev EK(I:LC)(H:LX)(o:Int)(u:Int)(z:zD)(B:Int)(C:Int)(D:zD)(F:zD)(G:LX)(h:LI):St:={tmps:=(tm 91 [(1,sl zj I),(2,ptr 0 0),(6,AV.vec 1),(15,sl Q5 H),(16,ai o),(17,ai u)]),heap:=[Qa [str z,ai B,ai C,str D,str F,sl Q5 G],AO.vec zg h]}
theorem DP(g:Sem Q5->Sem (Sh.sl zj)->Sem zg×Sem zg)(c:Sem Q5->Sem (Sh.sl zj)->Bool):zO (So g c).P 206 Tryz.f206 2:=bU kw
theorem zmS(g:Sem Q5->Sem (Sh.sl zj)->Sem zg×Sem zg)(c:Sem Q5->Sem (Sh.sl zj)->Bool)(h:Sem Q5)(o:Sem zj.sl):rn (So g c) 0 zea Tryz.f206 [zC Q5 h,zC zj.sl o] []=Tr.ok (zF.head 3 (aj Tryz.f206 3) (EK o (zf.l h) (↑(zf.l h).length:Int) 0 (zf.op h) (zf.v h).1 (zf.v h).2.1 (zf.v h).2.2 (zf.s h) (zf.l h) [])):=kw
theorem QA(g:Sem Q5->Sem (Sh.sl zj)->Sem zg×Sem zg)(c:Sem Q5->Sem (Sh.sl zj)->Bool)(B:LC)(z:LX)(D:Int)(u:Int)(o:zD)(F:Int)(G:Int)(H:zD)(C:zD)(I:LX)(h:LI):rh (So g c) 0 zea Tryz.f206 3 (EK B z D u o F G H C I h)=br (Q0 (u<D)) (chk (zJ u (Io z)) (chk (c (zl (z.getD u.toNat (zi Q5))) B) (br ((g (zl (z.getD u.toNat (zi Q5))) B).2!=0) (Tr.ok (zF.ret (tup [ai 0,AV.int IntKind.i64 (g (zl (z.getD u.toNat (zi Q5))) B).2]) [])) (chk (Q0 (Io h+[(g (zl (z.getD u.toNat (zi Q5))) B).1].length<=1073741824)) (Tr.ok (zF.head 3 (aj Tryz.f206 3) (EK B z D (Γ Δ (u+1)) o F G H C I (h++[(g (zl (z.getD u.toNat (zi Q5))) B).1])))))))) (br (o==kF) (Tr.ok (zF.ret (tup [ai F,ai 0]) [])) (br (o==cW) (br (Q0 (ap B C<0)) (Tr.ok (zF.ret (tup [ai 0,ai 4]) [])) (chk (zJ (ap B C) (Io B)) (Tr.ok (zF.ret (tup [ai (B.getD (toNat (ap B C)) (zi zj)).2.1,ai 0]) [])))) (br (o==mU) (br (!mC h 3) (Tr.ok (zF.ret (tup [ai 0,ai 5]) [])) (Tr.ok (zF.ret (tup [ai 3,ai 0]) []))) (br (o==ej) (br (!mC h 3) (Tr.ok (zF.ret (tup [ai 0,ai 5]) []))
 (Tr.ok (zF.ret (tup [ai 3,ai 0]) []))) (br (o==uM) (br (!mC h 3) (Tr.ok (zF.ret (tup [ai 0,ai 5]) [])) (Tr.ok (zF.ret (tup [ai 3,ai 0]) []))) (br (o==[61]) (chk (zJ 0 (Io h)&&(Q0 (toNat 0<Io h)&&(zJ 1 (Io h)&&(Q0 (toNat 1<Io h)&&bif h.getD (toNat 0) (zi zg)==h.getD (toNat 1) (zi zg)then Q3 else zJ 0 (Io h)&&(Q0 (toNat 0<Io h)&&bif h.getD (toNat 0) (zi zg)==0 then Q3 else zJ 1 (Io h)&&Q0 (toNat 1<Io h)))))) (br (!bif h.getD (toNat 0) (zi zg)==h.getD (toNat 1) (zi zg)then Q3 else bif h.getD (toNat 0) (zi zg)==0 then Q3 else h.getD (toNat 1) (zi zg)==0) (Tr.ok (zF.ret (tup [ai 0,ai 5]) [])) (Tr.ok (zF.ret (tup [ai 3,ai 0]) [])))) (br (o==[60]) (chk (zJ 0 (Io h)&&(Q0 (toNat 0<Io h)&&(zJ 1 (Io h)&&(Q0 (toNat 1<Io h)&&bif h.getD (toNat 0) (zi zg)==h.getD (toNat 1) (zi zg)then Q3 else zJ 0 (Io h)&&(Q0 (toNat 0<Io h)&&bif h.getD (toNat 0) (zi zg)==0 then Q3 else zJ 1 (Io h)&&Q0 (toNat 1<Io h)))))) (br (!bif h.getD (toNat 0) (zi zg)==h.getD (toNat 1) (zi zg)then Q3
 else bif h.getD (toNat 0) (zi zg)==0 then Q3 else h.getD (toNat 1) (zi zg)==0) (Tr.ok (zF.ret (tup [ai 0,ai 5]) [])) (Tr.ok (zF.ret (tup [ai 3,ai 0]) [])))) (br (o==[43]) (br (!mC h 1) (Tr.ok (zF.ret (tup [ai 0,ai 5]) [])) (Tr.ok (zF.ret (tup [ai 1,ai 0]) []))) (br (o==[45]) (br (!mC h 1) (Tr.ok (zF.ret (tup [ai 0,ai 5]) [])) (Tr.ok (zF.ret (tup [ai 1,ai 0]) []))) (Tr.ok (zF.ret (tup [ai 3,ai 0]) []))))))))))):=kw
def aJ(g:Sem Q5->Sem (Sh.sl zj)->Sem zg×Sem zg)(c:Sem Q5->Sem (Sh.sl zj)->Bool)(z:LC)(o:zD)(C:Int)(D:Int)(F:zD)(u:zD)(G:LX):List (Sem Q5)->Int->List (Sem zg)->Sem zg×Sem zg
 |[],_,h=>if(o==kF)=Q3 then(C,0)
else
 if(o==cW)=Q3 then
  if Q0 (ap z u<0)=Q3 then(0,4)
  else((z.getD (toNat (ap z u)) (zi zj)).2.1,0)
 else
  if(o==mU)=Q3 then if(!mC h 3)=Q3 then(0,5)else(3,0)
  else
   if(o==ej)=Q3 then if(!mC h 3)=Q3 then(0,5)else(3,0)
   else
    if(o==uM)=Q3 then if(!mC h 3)=Q3 then(0,5)else(3,0)
    else
     if (o==[61])=true then
      if
        (!bif h.getD (toNat 0) (zi zg)==h.getD (toNat 1) (zi zg)then Q3
          else bif h.getD (toNat 0) (zi zg)==0 then Q3 else h.getD (toNat 1) (zi zg)==0)=
         Q3 then
       (0,5)
      else(3,0)
     else
      if (o==[60])=true then
       if
         (!bif h.getD (toNat 0) (zi zg)==h.getD (toNat 1) (zi zg)then Q3
           else
            bif h.getD (toNat 0) (zi zg)==0 then Q3 else h.getD (toNat 1) (zi zg)==0)=
          Q3 then
        (0,5)
       else(3,0)
      else
       if(o==[43])=Q3 then if(!mC h 1)=Q3 then(0,5)else(1,0)
       else if(o==[45])=Q3 then if(!mC h 1)=Q3 then(0,5)else(1,0)else(3,0)
 |x::r,B,h=>if((g x z).2!=0)=Q3 then(0,(g x z).2)else aJ g c z o C D F u G r (B+1) (h++[(g x z).1])
def gj(g:Sem Q5->Sem (Sh.sl zj)->Sem zg×Sem zg)(c:Sem Q5->Sem (Sh.sl zj)->Bool)(u:LC)(o:zD)(C:Int)(D:Int)(F:zD)(z:zD)(G:LX):List (Sem Q5)->Int->List (Sem zg)->Bool
 |[],_,h=>if(o==kF)=Q3 then Q3
else
 if(o==cW)=Q3 then
  if Q0 (ap u z<0)=Q3 then Q3 else if zJ (ap u z) (Io u)=Q3 then Q3 else Q4
 else
  if(o==mU)=Q3 then Q3
  else
   if(o==ej)=Q3 then Q3
   else
    if(o==uM)=Q3 then Q3
    else
     if (o == [61])=true then
      if
        (zJ 0 (Io h)&&
          (Q0 (toNat 0<Io h)&&
           (zJ 1 (Io h)&&
            (Q0 (toNat 1<Io h)&&
             bif h.getD (toNat 0) (zi zg)==h.getD (toNat 1) (zi zg)then Q3
             else
              zJ 0 (Io h)&&
               (Q0 (toNat 0<Io h)&&
                bif h.getD (toNat 0) (zi zg)==0 then Q3
                else zJ 1 (Io h)&&Q0 (toNat 1<Io h))))))=
         Q3 then
       Q3
      else Q4
     else
      if (o == [60])=true then
       if
         (zJ 0 (Io h)&&
           (Q0 (toNat 0<Io h)&&
            (zJ 1 (Io h)&&
             (Q0 (toNat 1<Io h)&&
              bif h.getD (toNat 0) (zi zg)==h.getD (toNat 1) (zi zg)then Q3
              else
               zJ 0 (Io h)&&
                (Q0 (toNat 0<Io h)&&
                 bif h.getD (toNat 0) (zi zg)==0 then Q3
                 else zJ 1 (Io h)&&Q0 (toNat 1<Io h))))))=
          Q3 then
        Q3
       else Q4
      else Q3
 |x::r,B,h=>if c x u=Q3 then
 if((g x u).2!=0)=Q3 then Q3
 else
  if Q0 (Io h+[(g x u).1].length<=1073741824)=Q3 then
   gj g c u o C D F z G r (B+1) (h++[(g x u).1])
  else Q4
else Q4
theorem ZU(g:Sem Q5->Sem (Sh.sl zj)->Sem zg×Sem zg)(c:Sem Q5->Sem (Sh.sl zj)->Bool)(X:FK 206 (zT [Q5,Sh.sl zj] [zg,zg] (λx=>c x.1 x.2.1) λx=>((g x.1 x.2.1).1,(g x.1 x.2.1).2,()))){C:fg}(W:∀id,C.ρ0 id=Q2)(O:LC)(D:zD)(F:Int)(G:Int)(H:zD)(I:zD)(J:LX)(o:LX)(hl:Io o<=aF):∀(m i:Nat)(u:LI),Io o-i=m->i<=Io o->gj g c O D F G H I J (o.drop i) i u=Q3->
  Reach (So g c) C 206 (aj Tryz.f206 3) (EK O o (Io o:Int) (i:Int) D F G H I J u) (λr h=>aI h [zg,zg] r=Q1 ((aJ g c O D F G H I J (o.drop i) i u).1,(aJ g c O D F G H I J (o.drop i) i u).2,())):=by
 intro m
 induction m with
 | zero=>
  intro i u Z Y B;obtain rfl:i=Io o:=by omega
  rw[jM]at B⊢;refine zI (CZ X) (DP g c) (λid _=>W id) (QA g c _ _ _ _ _ _ _ _ _ _ _) ?_;rw[gj]at B;generalize z:aJ g c O D F G H I J [] _ u=y;rw[aJ]at z;simp only[zf.eta,zB,Tr.val_brF];repeat' (first|with_reducible refine vI z B (λ_ z B=>?_) (λ_ z B=>?_)|with_reducible refine du z (λ_ z=>?_) (λ_ z=>?_)|with_reducible refine iI B (λB=>?_)|with_reducible refine zP ?_)
  all_goals(subst z;first|rfl)
 | succ m T=>
  intro i u Z Y B;have M:i<Io o:=by omega
  have T:=T (i+1);have L:((i:Int)+1)=((i+1:Nat):Int):=by omega
  have S:=zr i ow;rw[fk M]at B⊢;refine zI (CZ X) (DP g c) (λid _=>W id) (QA g c _ _ _ _ _ _ _ _ _ _ _) ?_;rw[gj]at B;generalize z:aJ g c O D F G H I J (o[i]::o.drop (i+1)) (i:Int) u=y;rw[aJ]at z;simp only[zf.eta,zE M,zt M,cL o _ M,S,Tr.val_brT,Tr.val_chkT];clear S;simp only[L]at z
  try simp only[L]at B
  repeat' (first|with_reducible refine vI z B (λ_ z B=>?_) (λ_ z B=>?_)|with_reducible refine du z (λ_ z=>?_) (λ_ z=>?_)|with_reducible refine iI B (λB=>?_)|with_reducible refine zP ?_)
  all_goals(subst z;first|(change Reach _ _ _ _ _ _;apply T<;>first|omega|assumption)|rfl)
theorem Uh(g:Sem Q5->Sem (Sh.sl zj)->Sem zg×Sem zg)(c:Sem Q5->Sem (Sh.sl zj)->Bool)(M:FK 206 (zT [Q5,Sh.sl zj] [zg,zg] (λx=>c x.1 x.2.1) λx=>((g x.1 x.2.1).1,(g x.1 x.2.1).2,()))){C:fg}(J:∀id,C.ρ0 id=Q2)(I:LC)(z:zD)(B:Int)(D:Int)(F:zD)(G:zD)(H:LX)(u:LX)(o:LI)(L:gj g c I z B D F G H u 0 o=Q3):
  Reach (So g c) C 206 (aj Tryz.f206 3) (EK I u (Io u:Int) 0 z B D F G H o) (λr h=>aI h [zg,zg] r=Q1 ((aJ g c I z B D F G H u 0 o).1,(aJ g c I z B D F G H u 0 o).2,())):=
 Reach.len 15 (Q5) u rfl λO=>ZU g c M J I z B D F G H u O _ 0 o rfl (aQ _) L
def yR(g:Sem Q5->Sem (Sh.sl zj)->Sem zg×Sem zg)(c:Sem Q5->Sem (Sh.sl zj)->Bool)(h:Sem Q5)(o:Sem zj.sl):Sem zg×Sem zg:=aJ g c o (zf.op h) (zf.v h).1 (zf.v h).2.1 (zf.v h).2.2 (zf.s h) (zf.l h) (zf.l h) 0 []
def B6(g:Sem Q5->Sem (Sh.sl zj)->Sem zg×Sem zg)(c:Sem Q5->Sem (Sh.sl zj)->Bool)(h:Sem Q5)(o:Sem zj.sl):Bool:=gj g c o (zf.op h) (zf.v h).1 (zf.v h).2.1 (zf.v h).2.2 (zf.s h) (zf.l h) (zf.l h) 0 []
def zqa(g:Sem Q5->Sem (Sh.sl zj)->Sem zg×Sem zg)(c:Sem Q5->Sem (Sh.sl zj)->Bool):ac:=zT [Q5,zj.sl] [zg,zg] (λx=>B6 g c x.1 x.2.1) λx=>((yR g c x.1 x.2.1).1,(yR g c x.1 x.2.1).2,())
theorem zfP(g:Sem Q5->Sem (Sh.sl zj)->Sem zg×Sem zg)(c:Sem Q5->Sem (Sh.sl zj)->Bool)(z:FK 206 (zT [Q5,Sh.sl zj] [zg,zg] (λx=>c x.1 x.2.1) λx=>((g x.1 x.2.1).1,(g x.1 x.2.1).2,()))):FK 206 (zqa g c):=by
 refine aL (DP g c) λx o C u=>?_
 unfold B6 at o;refine zI (CZ z) (DP g c) (λid _=>u id) (zmS g c x.1 x.2.1) ?_;generalize h:yR g c x.1 x.2.1=y;unfold yR at h
 try simp only[zf.eta,zk]
 repeat' (first|with_reducible refine vI h o (λ_ h o=>?_) (λ_ h o=>?_)|with_reducible refine du h (λ_ h=>?_) (λ_ h=>?_)|with_reducible refine iI o (λo=>?_)|with_reducible refine zP ?_)
 all_goals(subst h;first|(change Reach _ _ _ _ _ _;apply Uh g c z u<;>first|assumption|exact o)|rfl)
mutual
def zS:Nat->Sem Q5->Sem (Sh.sl zj)->Sem zg×Sem zg
 |0=>λ_ _=>default
 |n+1=>yR (zS n) (bh n)
def bh:Nat->Sem Q5->Sem (Sh.sl zj)->Bool
 |0=>λ_ _=>Q4
 |n+1=>B6 (zS n) (bh n)
end
theorem TX:∀n,FK 206 (zT [Q5,Sh.sl zj] [zg,zg] (λx=>bh n x.1 x.2.1) λx=>((zS n x.1 x.2.1).1,(zS n x.1 x.2.1).2,()))
 |0=>eX ⟨Tryz.f206,(DP default default).1,(DP default default).2.1,(DP default default).2.2.1⟩ (λ_=>rfl)
 |n+1=>zfP (zS n) (bh n) (TX n)
def F51:ac:=zT [Q5,Sh.sl zj] [zg,zg] (λx=>bh 16 x.1 x.2.1) λx=>((zS 16 x.1 x.2.1).1,(zS 16 x.1 x.2.1).2,())
theorem zlk:FK 206 F51:=TX 16
noncomputable def Gh:=U6.add 206 F51
theorem qZ:zw Gh:=Gg.add zlk
end Cad
