/- The library's functions. -/
import Derived.Test.YtjfdpfapcmcncaaGreatDoorR06
import Derived.Test.YtjfdpfapcmcncaaGreatDoorR07
namespace Cad
open Go Go.Proofs Go.RowKit Go.Lib
open List renaming length→Io,drop→Qh,take→Qg
open IntKind renaming wrap→Γ,i64→Δ
open AV renaming agg→Qd
open AO renaming box→Qa
open Sh renaming bool→Q7,str→Q6,expr→Q5
open Bool renaming false→Q4,true→Q3
open Option renaming none→Q2,some→Q1
open Decidable renaming decide→Q0
open Int (toNat)
open Tr (chk br)
open AV (nils agg tup ptr kb str sl)
theorem mv.below{w o:World}(h:Below w.heap.size w o):mv w o:=
 ⟨h.size,h.os,h.output,h.tape,λa u=>Ci (h.block a.block u)⟩
theorem en{E:bZ}{C:ff}{w H:World}{U:Nat->Prop}{r:AV}{v:Value}{F:List AO}{ρ:Nat->Option Value}(z:jI C w U ρ (λj=>F.getD j .dead))(D:∀id,Io F<=id->ρ id=Q2)
  (I:∀id v,C.ρ0 id=Q1 v->ρ id=Q1 v) (u:Wd E.gl C w U) (B:Below w.heap.size w H) (M:Rv H U ρ r v):RH E C (λS h=>(S,h)=(r,F)) (.returned v) H:=by
 have G:∀b,b<w.heap.size->H.heap[b]?=w.heap[b]?:=B.block;refine⟨v,r,F,U,ρ,rfl,rfl,M,⟨λid=>?_,z.inj,z.blk⟩,D,I,⟨u.ext.trans (mv.below B),λb o L=>?_,λb O=>g7 (u.ub b O) B.size,u.u1,u.u2,λg=>?_⟩⟩
 ·exact(z.ob id).mono B.size (λb o _=>G b o) (λ_ _ h=>h) (λ_ _ h=>h) (λb J=>⟨G b ((z.ob id).inU J).2,((z.ob id).inU J).1⟩)
 ·rw[G b (g7 o u.ext.sz)];exact u.same b o L
 ·exact(u.gl g).mono B.size (λb o _=>G b o) (λ_ _ h=>h) (λ_ _ h=>h)
noncomputable def zg0:bZ:=Ss.aut 176 Tryz.f176 1
theorem zoI:zO Ss.P 176 Tryz.f176 1:=bU kw
theorem Vc:zw zg0:=iu Le zoI
def DN(c:Int):Bool:=bif Q0 (c<32)then Q3 else Q0 (c>126)
theorem zrm(c:Int):((bp (List.replicate 1 Q2) (fA Ss Tryz.f176 (List.replicate 1 Q2))) [.int .i32 c] (λ_=>.dead) 0).val=Q1 {val:=.bool (DN c)}:=kw
theorem ziw(w:World)(U:Nat->Prop)(D:tr Ss.gl w U)(F:∀b,U b->b<w.heap.size):PredGrows Tryz.prog 176 #[] (λr=>DN r) w:=by
 intro W x J B;have G:FK 176 (bp (List.replicate 1 Q2) (fA Ss Tryz.f176 (List.replicate 1 Q2))):=ch _ Le zoI;have H:dA W U (λ_=>Q2) [.int .i32 (x:Int)] [.int .i32 (x:Int)]:=by
  refine⟨rfl,λj c v C z=>?_⟩;cases j with
  | zero=>
   simp at C z;subst C;subst z;refine .int _ _ ⟨?_,?_⟩
   ·show(-2147483648:Int)<=x;omega
   ·show(x:Int)<=2147483647;omega
  |succ j=>simp at C
 have:=(G.calls W U (λ_=>Q2) (λ_=>.dead) 0 [.int .i32 (x:Int)] [.int .i32 (x:Int)] _ [] (zrm x) H (λb u=>g7 (F b u) B.size) (λg=>(D g).mono B.size (λb u _=>B.block b u) (λ_ _ h=>h) (λ_ _ h=>h)) ⟨sw,sw⟩ (by simp[AV.idsL,AV.ids]) sw sw).1;refine this.mono ?_;rintro e L ⟨v,I,M,rfl,o⟩;have z:=o.val;cases z;exact⟨rfl,⟨o.ext.os,o.ext.tape,o.ext.out,o.ext.sz,λb u=>o.same b u sw⟩⟩
def qr(s:zD):Int:=Lib.idxFunc (λr=>DN r) Q3 ⟨s.toArray⟩
def G36:iU [Q1 .str,Q2]:=λx h=>match x,h with
 |(s,.clo (.func 176) [] [],_),[]=>.ok (.int .i64 (qr s),[])
 |_,_=>.err
theorem zq2:Go.Proofs.Enters Tryz.prog 176:=by
  cases h:Tryz.f176.body with
  | none => have:Tryz.f176.body.isNone=false:=by kernel_rfl
            rw[h]at this;cases this
  |some c=>exact Go.Proofs.enters_of (fn:=Tryz.f176) kw kw h
theorem zk0:FK 177 (bp [Q1 .str,Q2] G36):=by
 refine fg (E:=zg0) ⟨Tryz.f177,kw,kw,kw⟩ λx h0 Y B=>?_
 unfold G36 at B;split at B
 ·rename_i s u;simp only[Tr.val_ok,bH]at B;subst B;intro C w U ρ D _ o O h I F;have X:=o.len
  match D,X,o with
  | [Z,v2],_,o=>
   have L:=o.rv 0 (.str s) Z rfl rfl;have M:=o.rv 1 (.clo (.func 176) [] []) v2 rfl rfl;cases L with
   |str _ hs=>
   cases M with
   |clo _ _ _ vf vc W T _ _=>
   have H:vf=[]:=AQ W.symm;have G:vc=[]:=AQ T.symm;subst H;subst G;have:=Tryz.strings_IndexFunc_grows 176 #[] zq2 (λr=>DN r) ⟨s.toArray⟩ w (ziw w U F.gl F.ub);refine this.mono ?_;rintro e w' ⟨rfl,S⟩;refine en O h I F S (.int _ _ ?_);have z:=Lib.idxFunc_range (λr=>DN r) Q3 ⟨s.toArray⟩;have J:(⟨s.toArray⟩:ByteArray).size=Io s:=by simp[ByteArray.size]
   have hm:aG=9223372036854775807:=rfl;rw[J]at z;change qr s=-1\/(0<=qr s/\qr s<Io s)at z;refine⟨?_,?_⟩
   ·show(-9223372036854775808:Int)<=_;omega
   ·show _<=(9223372036854775807:Int);omega
 ·simp at B
noncomputable def uZ:bZ:=zg0.add 177 (bp [Q1 .str,Q2] G36)
theorem kK:zw uZ:=Vc.add zk0
open Go Go.Proofs
abbrev TS:=Sem Q6
abbrev LX:=List (Sem Q5)
abbrev LC:=List (Sem zj)
abbrev LS:=List (Sem Q6)
abbrev LV:=List (Sem ze)
abbrev LI:=List (Sem zg)
abbrev LF:=List (Sem zp)
abbrev V:=Sem ze
def aU(h:Sem ze):Sem Q7:=if(h.1==0)=Q3 then if(h.2.1!=0)=Q3 then Q4 else h.2.2==[]else if(h.1==1)=Q3 then h.2.2==[]else if(h.1==2)=Q3 then bif h.2.1==0 then bif Q0 ((↑(Io h.2.2):Int)<=40)then Q0 (qr h.2.2<0)else Q4 else Q4 else if(h.1==3)=Q3 then bif h.2.1==0 then h.2.2==[]else bif h.2.1==1 then h.2.2==[]else Q4 else Q4
theorem zoy:zO uZ.P 129 Tryz.f129 1:=bU kw
theorem zrc(h:Sem ze):rn uZ 0 (λ_=>{ }) Tryz.f129 [zC ze h] []=br (h.1==0) (br (h.2.1!=0) (Tr.ok (zG.ret (kb Q4) [])) (Tr.ok (zG.ret (AV.bool (h.2.2==[])) []))) (br (h.1==1) (Tr.ok (zG.ret (AV.bool (h.2.2==[])) [])) (br (h.1==2) (Tr.ok (zG.ret (AV.bool (cond (h.2.1==0) (cond (Q0 ((↑(Io h.2.2):Int)<=40)) (Q0 (qr h.2.2<0)) Q4) Q4)) [])) (br (h.1==3) (Tr.ok (zG.ret (AV.bool (cond (h.2.1==0) (h.2.2==[]) (cond (h.2.1==1) (h.2.2==[]) Q4))) [])) (Tr.ok (zG.ret (kb Q4) []))))):=kw
def F21:zZ:=aH [ze] [Q7] λx=>(aU x.1,())
theorem zkQ:FK 129 F21:=by
 refine ag zoy λx C h=>?_
 refine aZ kK zoy (λid _=>h id) (zrc x.1) ?_;simp only[Tr.val,aU];repeat' split
 all_goals rfl
def aY(h:Sem zg):Sem ze:=if(h==0)=Q3 then(0,0,[])else(3,Γ Δ (h-1),[])
theorem zo1:zO uZ.P 343 Tryz.f343 1:=bU kw
theorem zrF(h:Sem zg):rn uZ 0 (λ_=>{ }) Tryz.f343 [zC zg h] []=br (h==0) (Tr.ok (zG.ret (Qd [ai 0,ai 0,str []]) [])) (Tr.ok (zG.ret (Qd [ai 3,ai (Γ Δ (h-1)),str []]) [])):=kw
def F57:zZ:=aH [zg] [ze] λx=>(aY x.1,())
theorem zlk:FK 343 F57:=by
 refine ag zo1 λx C h=>?_
 refine aZ kK zo1 (λid _=>h id) (zrF x.1) ?_;simp only[Tr.val,aY];repeat' split
 all_goals rfl
noncomputable def zi2:zZ:=bp (List.replicate 1 Q2) (fA uZ Tryz.f216 (List.replicate 1 Q2))
theorem zez:FK 216 zi2:=ch _ kK (bU kw)
noncomputable def zi3:zZ:=bp (List.replicate 1 Q2) (fA uZ Tryz.f217 (List.replicate 1 Q2))
theorem zeA:FK 217 zi3:=ch _ kK (bU kw)
noncomputable def zi4:zZ:=bp (List.replicate 1 Q2) (fA uZ Tryz.f218 (List.replicate 1 Q2))
theorem zeB:FK 218 zi4:=ch _ kK (bU kw)
noncomputable def ma:=uZ.addL [(129,F21),(343,F57),(216,zi2),(217,zi3),(218,zi4)]
theorem jj:zw ma:=kK.addL<|fc zkQ<|fc zlk<|fc zez<|fc zeA<|fc zeB iz
def an(h:Sem ze):Sem ze:=if(!aU h)=Q3 then(0,0,[])else h
theorem zo5:zO ma.P 170 Tryz.f170 1:=bU kw
theorem zrJ(h:Sem ze):rn ma 0 (λ_=>{ }) Tryz.f170 [zC ze h] []=br (!aU h) (Tr.ok (zG.ret (Qd [ai 0,ai 0,str []]) [])) (Tr.ok (zG.ret (Qd [ai h.1,ai h.2.1,str h.2.2]) [])):=kw
def F61:zZ:=aH [ze] [ze] λx=>(an x.1,())
theorem zlq:FK 170 F61:=by
 refine ag zo5 λx C h=>?_
 refine aZ jj zo5 (λid _=>h id) (zrJ x.1) ?_;simp only[Tr.val,an];repeat' split
 all_goals rfl
def eh(h:Sem ze):Sem zg:=if(cond (h.1!=3) Q3 (!aU h))=Q3 then 0 else Γ Δ (1+h.2.1)
theorem zo0:zO ma.P 290 Tryz.f290 1:=bU kw
theorem zrE(h:Sem ze):rn ma 0 (λ_=>{ }) Tryz.f290 [zC ze h] []=br (cond (h.1!=3) Q3 (!aU h)) (Tr.ok (zG.ret (ai 0) [])) (Tr.ok (zG.ret (ai (Γ Δ (1+h.2.1))) [])):=kw
def F56:zZ:=aH [ze] [zg] λx=>(eh x.1,())
theorem zlj:FK 290 F56:=by
 refine ag zo0 λx C h=>?_
 refine aZ jj zo0 (λid _=>h id) (zrE x.1) ?_;simp only[Tr.val,eh];repeat' split
 all_goals rfl
def dm(h:Sem Q7):Sem ze:=if h=Q3 then aY 2 else aY 1
theorem zo3:zO ma.P 345 Tryz.f345 1:=bU kw
theorem zrH(h:Sem Q7):rn ma 0 (λ_=>{ }) Tryz.f345 [zC Q7 h] []=br h (Tr.ok (zG.ret (Qd [ai (aY 2).1,ai (aY 2).2.1,str (aY 2).2.2]) [])) (Tr.ok (zG.ret (Qd [ai (aY 1).1,ai (aY 1).2.1,str (aY 1).2.2]) [])):=kw
def F59:zZ:=aH [Q7] [ze] λx=>(dm x.1,())
theorem zlm:FK 345 F59:=by
 refine ag zo3 λx C h=>?_
 refine aZ jj zo3 (λid _=>h id) (zrH x.1) ?_;simp only[Tr.val,dm];repeat' split
 all_goals rfl
def pR(o:Sem zg)(h:Sem zg):Sem zg:=if(o !=o)=Q3 then if(h !=h)=Q3 then 0 else -1 else if(h !=h)=Q3 then 1 else if Q0 (o<h)=Q3 then -1 else if Q0 (o>h)=Q3 then 1 else 0
theorem zo8:zO ma.P 172 Tryz.f172 2:=bU kw
theorem zrN(o:Sem zg)(h:Sem zg):rn ma 0 (λ_=>{ }) Tryz.f172 [zC zg o,zC zg h] []=br (o !=o) (br (h !=h) (Tr.ok (zG.ret (ai 0) [])) (Tr.ok (zG.ret (ai (-1)) []))) (br (h !=h) (Tr.ok (zG.ret (ai 1) [])) (br (Q0 (o<h)) (Tr.ok (zG.ret (ai (-1)) [])) (br (Q0 (o>h)) (Tr.ok (zG.ret (ai 1) [])) (Tr.ok (zG.ret (ai 0) []))))):=kw
def F71:zZ:=aH [zg,zg] [zg] λx=>(pR x.1 x.2.1,())
theorem zly:FK 172 F71:=by
 refine ag zo8 λx C h=>?_
 refine aZ jj zo8 (λid _=>h id) (zrN x.1 x.2.1) ?_;simp only[Tr.val,pR];repeat' split
 all_goals rfl
def jM(o:Sem zg)(h:Sem zg):Sem zg:=if(o !=o)=Q3 then if(h !=h)=Q3 then 0 else -1 else if(h !=h)=Q3 then 1 else if Q0 (o<h)=Q3 then -1 else if Q0 (o>h)=Q3 then 1 else 0
theorem zpa:zO ma.P 173 Tryz.f173 2:=bU kw
theorem zrO(o:Sem zg)(h:Sem zg):rn ma 0 (λ_=>{ }) Tryz.f173 [zC zg o,zC zg h] []=br (o !=o) (br (h !=h) (Tr.ok (zG.ret (ai 0) [])) (Tr.ok (zG.ret (ai (-1)) []))) (br (h !=h) (Tr.ok (zG.ret (ai 1) [])) (br (Q0 (o<h)) (Tr.ok (zG.ret (ai (-1)) [])) (br (Q0 (o>h)) (Tr.ok (zG.ret (ai 1) [])) (Tr.ok (zG.ret (ai 0) []))))):=kw
def F72:zZ:=aH [zg,zg] [zg] λx=>(jM x.1 x.2.1,())
theorem zlz:FK 173 F72:=by
 refine ag zpa λx C h=>?_
 refine aZ jj zpa (λid _=>h id) (zrO x.1 x.2.1) ?_;simp only[Tr.val,jM];repeat' split
 all_goals rfl
def mU(o:Sem Q6)(h:Sem Q6):Sem zg:=if(!o==o)=Q3 then if(!h==h)=Q3 then 0 else -1 else if(!h==h)=Q3 then 1 else if Op.bytesLess o h=Q3 then -1 else if(!(Op.bytesLess o h||o==h))=Q3 then 1 else 0
theorem zpb:zO ma.P 174 Tryz.f174 2:=bU kw
theorem zrP(o:Sem Q6)(h:Sem Q6):rn ma 0 (λ_=>{ }) Tryz.f174 [zC Q6 o,zC Q6 h] []=br (!o==o) (br (!h==h) (Tr.ok (zG.ret (ai 0) [])) (Tr.ok (zG.ret (ai (-1)) []))) (br (!h==h) (Tr.ok (zG.ret (ai 1) [])) (br (Op.bytesLess o h) (Tr.ok (zG.ret (ai (-1)) [])) (br (!(Op.bytesLess o h||o==h)) (Tr.ok (zG.ret (ai 1) [])) (Tr.ok (zG.ret (ai 0) []))))):=kw
def F73:zZ:=aH [Q6,Q6] [zg] λx=>(mU x.1 x.2.1,())
theorem zlA:FK 174 F73:=by
 refine ag zpb λx C h=>?_
 refine aZ jj zpb (λid _=>h id) (zrP x.1 x.2.1) ?_;simp only[Tr.val,mU];repeat' split
 all_goals rfl
noncomputable def ku:=ma.addL [(170,F61),(290,F56),(345,F59),(172,F71),(173,F72),(174,F73)]
theorem fh:zw ku:=jj.addL<|fc zlq<|fc zlj<|fc zlm<|fc zly<|fc zlz<|fc zlA iz
theorem EA{E:bZ}{C:ff}{k:FuncId}{f:Func}{Q:AV->List AO->Prop}{n n0:Nat}(B:zw E)(D:zO E.P k f n)(z:∀id,n0<=id->C.ρ0 id=Q2){keep:Nat->aN}{o:Nat}
  {u:List Item} {st:St} {t:Tr zG} {l:zG} (G:run E n0 keep f.results.toList o u st=t) (h:t.val=Q1 l) (F:kc E C k Q l):Reach E C k u st Q:=
 dF B D z keep o (by rw[G];exact Tr.sat_of_val h F)
def gC{α:Type}(Φ:α->Prop):Option α->Prop
 |some a=>Φ a
 |none=>False
theorem zK{E:bZ}{C:ff}{k:FuncId}{f:Func}{Q:AV->List AO->Prop}{n n0:Nat}(D:zw E)(F:zO E.P k f n)(B:∀id,n0<=id->C.ρ0 id=Q2){keep:Nat->aN}{u:Nat}
  {o:List Item} {st:St} {t:Tr zG} (G:run E n0 keep f.results.toList u o st=t) (h:gC (kc E C k Q) t.val):Reach E C k o st Q:=by
 cases z:t.val with
 |none=>rw[z]at h;exact h.elim
 |some l=>rw[z]at h;exact EA D F B G z h
def Lo{α β R:Type}(f:β->Nat->α->β⊕R)(h:β->R):List α->Nat->β->R
 |[],_,b=>h b
 | x::r,i,b=>match f b i x with
  |.inl o=>Lo f h r (i+1) o
  |.inr y=>y
def ZJ{E:bZ}{C:ff}{k:FuncId}{K:List Item}{β R:Type}(st:β->Nat->St)(Q:R->AV->List AO->Prop)(b:β)(i:Nat):β⊕R->Prop
 |.inl h=>∀q,Reach E C k K (st h (i+1)) q->Reach E C k K (st b i) q
 |.inr y=>Reach E C k K (st b i) (Q y)
theorem EB{E:bZ}{C:ff}{k:FuncId}{K:List Item}{α β R:Type}(l:List α)(st:β->Nat->St)(f:β->Nat->α->β⊕R)(u:β->R)(Q:R->AV->List AO->Prop)(I:β->Nat->Prop)
  (h:∀b i(H:i<Io l),I b i->ZJ (E:=E) (C:=C) (k:=k) (K:=K) st Q b i (f b i l[i])/\∀z,f b i l[i]=.inl z->I z (i+1))
  (o:∀b,I b (Io l)->Reach E C k K (st b (Io l)) (Q (u b))):∀(m i:Nat)(b:β),Io l-i=m->i<=Io l->I b i->Reach E C k K (st b i) (Q (Lo f u (l.drop i) i b))
 | 0,i,b,L,H,F=>by
  have:i=Io l:=by omega
  subst this;rw[jK];exact o b F
 | m+1,i,b,L,H,F=>by
  have B:i<Io l:=by omega
  rw[fj B];obtain⟨D,J⟩:=h b i B F;simp only[Lo];cases G:f b i l[i]with
  | inl z=>
   rw[G]at D;exact D _ (EB l st f u Q I h o m (i+1) z ow ow (J z G))
  | inr y=>
   rw[G]at D;exact D
theorem zF{i n:Nat}(h:i<n):Q0 ((i:Int)<(n:Int))=Q3:=by simpa using h
theorem zB(n:Nat):Q0 ((n:Int)<(n:Int))=Q4:=by simp
theorem zt{i n:Nat}(h:i<n):zJ (i:Int) n=Q3:=by simp[zJ,h]
def FG:List Int->Int
 |[]=>0
 |x::r=>if x !=0 then x else FG r
abbrev zn8:Nat->aN:=λj=>if j=3 then{slots:=[3,6,7,8]}else{ }
abbrev QY(h:Int)(z:List (Sem zg))(o:Int)(u:Int):St:={tmps:=(tm 18 [(3,ai h),(6,sl (Sh.int IntKind.i64) z),(7,ai o),(8,ai u)]),heap:=[]}
theorem W6:zO ku.P 171 Tryz.f171 1:=bU kw
theorem zrM(k:List (Sem zg)):rn ku 0 zn8 Tryz.f171 [sl zg k] []=Tr.ok (zG.head 3 (aj Tryz.f171 3) (QY 0 k (↑k.length) 0)):=kw
theorem Ov(u:Int)(o:List (Sem zg))(z:Int)(h:Int):rh ku 0 zn8 Tryz.f171 3 (QY u o z h)=br (Q0 (h<z)) (chk (zJ h (Io o)) (br (o.getD h.toNat (zi (Sh.int IntKind.i64))!=u) (Tr.ok (zG.ret (ai (o.getD h.toNat (zi (Sh.int IntKind.i64)))) [])) (Tr.ok (zG.head 3 (aj Tryz.f171 3) (QY u o z (Γ Δ (h+1))))))) (Tr.ok (zG.ret (ai u) [])):=kw
def f70:Unit->Nat->Int->Unit⊕Int:=λ_ _ x=>if x !=0 then .inr x else .inl ()
theorem Vq:∀(l:List Int)(i:Nat),Lo f70 (λ_=>0) l i ()=FG l
 |[],_=>rfl
 | x::r,i=>by
  simp only[Lo,f70,FG];split
  ·rename_i h;split at h<;>simp_all[Vq r (i+1)]
  ·rename_i h;split at h<;>simp_all
def F70:zZ:=aH [.sl zg] [zg] λx=>(FG x.1,())
theorem zlx:FK 171 F70:=by
 refine ag W6 λx C z=>?_
 obtain⟨l,u⟩:=x;refine Reach.len 0 zg l rfl λD=>?_
 refine EA fh W6 (λid _=>z id) (zrM l) rfl ?_
 have:=EB (E:=ku) (C:=C) (k:=171) (K:=aj Tryz.f171 3) l (λ(_:Unit) i=>QY 0 l (Io l) i) f70 (λ_=>(0:Int)) (λy r h=>aI h [zg] r=Q1 (y,())) (λ_ _=>True)
  (λb i o _=>⟨by
   unfold f70;split
   ·rename_i h;refine zK fh W6 (λid _=>z id) (Ov _ _ _ _) ?_;simp only[Tr.val,zF o,zt o,cM l _ o,h,if_true];rfl
   ·rename_i h;intro q B;refine zK fh W6 (λid _=>z id) (Ov _ _ _ _) ?_;simp only[Tr.val,zF o,zt o,cM l _ o,h,if_true,zr i ow];exact B,λ_ _=>trivial⟩)
  (λb _=>by
   refine zK fh W6 (λid _=>z id) (Ov _ _ _ _) ?_;simp only[Tr.val,zB];rfl) _ 0 () rfl ow trivial
 rw[Vq]at this;exact this
def eW(h:Sem ze)(o:Sem ze):Sem Q7:=bif (an h).1!=0 then(an h).1==(an o).1 else Q4
theorem zo2:zO ku.P 344 Tryz.f344 2:=bU kw
theorem zrG(h:Sem ze)(o:Sem ze):rn ku 0 (λ_=>{ }) Tryz.f344 [zC ze h,zC ze o] []=Tr.ok (zG.ret (AV.bool (cond ((an h).1!=0) ((an h).1==(an o).1) Q4)) []):=kw
def F58:zZ:=aH [ze,ze] [Q7] λx=>(eW x.1 x.2.1,())
theorem zll:FK 344 F58:=by
 refine ag zo2 λx C h=>?_
 refine aZ fh zo2 (λid _=>h id) (zrG x.1 x.2.1) ?_;simp only[Tr.val,eW];repeat' split
 all_goals rfl
def A3(h:Sem ze)(o:Sem ze):Sem ze:=if(cond (eh h==1) Q3 (eh o==1))=Q3 then aY 1 else if(cond (eh h==2) (eh o==2) Q4)=Q3 then aY 2 else aY 0
theorem zoL:zO ku.P 317 Tryz.f317 2:=bU kw
theorem zro(h:Sem ze)(o:Sem ze):rn ku 0 (λ_=>{ }) Tryz.f317 [zC ze h,zC ze o] []=br (cond (eh h==1) Q3 (eh o==1)) (Tr.ok (zG.ret (Qd [ai (aY 1).1,ai (aY 1).2.1,str (aY 1).2.2]) [])) (br (cond (eh h==2) (eh o==2) Q4) (Tr.ok (zG.ret (Qd [ai (aY 2).1,ai (aY 2).2.1,str (aY 2).2.2]) [])) (Tr.ok (zG.ret (Qd [ai (aY 0).1,ai (aY 0).2.1,str (aY 0).2.2]) []))):=kw
def F38:zZ:=aH [ze,ze] [ze] λx=>(A3 x.1 x.2.1,())
theorem zk2:FK 317 F38:=by
 refine ag zoL λx C h=>?_
 refine aZ fh zoL (λid _=>h id) (zro x.1 x.2.1) ?_;simp only[Tr.val,A3];repeat' split
 all_goals rfl
def YF(h:Sem ze)(o:Sem ze):Sem ze:=if(cond (eh h==2) Q3 (eh o==2))=Q3 then aY 2 else if(cond (eh h==1) (eh o==1) Q4)=Q3 then aY 1 else aY 0
theorem zoM:zO ku.P 318 Tryz.f318 2:=bU kw
theorem zrp(h:Sem ze)(o:Sem ze):rn ku 0 (λ_=>{ }) Tryz.f318 [zC ze h,zC ze o] []=br (cond (eh h==2) Q3 (eh o==2)) (Tr.ok (zG.ret (Qd [ai (aY 2).1,ai (aY 2).2.1,str (aY 2).2.2]) [])) (br (cond (eh h==1) (eh o==1) Q4) (Tr.ok (zG.ret (Qd [ai (aY 1).1,ai (aY 1).2.1,str (aY 1).2.2]) [])) (Tr.ok (zG.ret (Qd [ai (aY 0).1,ai (aY 0).2.1,str (aY 0).2.2]) []))):=kw
def F39:zZ:=aH [ze,ze] [ze] λx=>(YF x.1 x.2.1,())
theorem zk3:FK 318 F39:=by
 refine ag zoM λx C h=>?_
 refine aZ fh zoM (λid _=>h id) (zrp x.1 x.2.1) ?_;simp only[Tr.val,YF];repeat' split
 all_goals rfl
def A4(h:Sem ze):Sem ze:=if(eh h==2)=Q3 then aY 1 else if(eh h==1)=Q3 then aY 2 else aY 0
theorem zoO:zO ku.P 320 Tryz.f320 1:=bU kw
theorem zrr(h:Sem ze):rn ku 0 (λ_=>{ }) Tryz.f320 [zC ze h] []=br (eh h==2) (Tr.ok (zG.ret (Qd [ai (aY 1).1,ai (aY 1).2.1,str (aY 1).2.2]) [])) (br (eh h==1) (Tr.ok (zG.ret (Qd [ai (aY 2).1,ai (aY 2).2.1,str (aY 2).2.2]) [])) (Tr.ok (zG.ret (Qd [ai (aY 0).1,ai (aY 0).2.1,str (aY 0).2.2]) []))):=kw
def F41:zZ:=aH [ze] [ze] λx=>(A4 x.1,())
theorem zk5:FK 320 F41:=by
 refine ag zoO λx C h=>?_
 refine aZ fh zoO (λid _=>h id) (zrr x.1) ?_;simp only[Tr.val,A4];repeat' split
 all_goals rfl
def jH(h:Sem ze):Sem ze:=dm ((an h).1==0)
theorem zoV:zO ku.P 326 Tryz.f326 1:=bU kw
theorem zrx(h:Sem ze):rn ku 0 (λ_=>{ }) Tryz.f326 [zC ze h] []=Tr.ok (zG.ret (Qd [ai (dm ((an h).1==0)).1,ai (dm ((an h).1==0)).2.1,str (dm ((an h).1==0)).2.2]) []):=kw
def F47:zZ:=aH [ze] [ze] λx=>(jH x.1,())
theorem zlb:FK 326 F47:=by
 refine ag zoV λx C h=>?_
 refine aZ fh zoV (λid _=>h id) (zrx x.1) ?_;simp only[Tr.val,jH];repeat' split
 all_goals rfl
noncomputable def mb:=ku.addL [(171,F70),(344,F58),(317,F38),(318,F39),(320,F41),(326,F47)]
theorem jk:zw mb:=fh.addL<|fc zlx<|fc zll<|fc zk2<|fc zk3<|fc zk5<|fc zlb iz
def aX(h:Sem ze)(o:Sem ze):Sem zg:=FG [pR (an h).1 (an o).1,jM (an h).2.1 (an o).2.1,mU (an h).2.2 (an o).2.2]
theorem zo4:zO mb.P 122 Tryz.f122 2:=bU kw
theorem zrI(h:Sem ze)(o:Sem ze):rn mb 0 (λ_=>{ }) Tryz.f122 [zC ze h,zC ze o] []=Tr.ok (zG.ret (AV.int IntKind.i64 (FG [pR (an h).1 (an o).1,jM (an h).2.1 (an o).2.1,mU (an h).2.2 (an o).2.2])) []):=kw
def F60:zZ:=aH [ze,ze] [zg] λx=>(aX x.1 x.2.1,())
theorem zlp:FK 122 F60:=by
 refine ag zo4 λx C h=>?_
 refine aZ jk zo4 (λid _=>h id) (zrI x.1 x.2.1) ?_;simp only[Tr.val,aX];repeat' split
 all_goals rfl
def km(h:Sem ze)(o:Sem ze):Sem ze:=if(!eW h o)=Q3 then(0,0,[])else dm (h.1==o.1&&(h.2.1==o.2.1&&(h.2.2==o.2.2&&Q3)))
theorem zoP:zO mb.P 321 Tryz.f321 2:=bU kw
theorem zrs(h:Sem ze)(o:Sem ze):rn mb 0 (λ_=>{ }) Tryz.f321 [zC ze h,zC ze o] []=br (!eW h o) (Tr.ok (zG.ret (Qd [ai 0,ai 0,str []]) [])) (Tr.ok (zG.ret (Qd [ai (dm (h.1==o.1&&(h.2.1==o.2.1&&(h.2.2==o.2.2&&Q3)))).1,ai (dm (h.1==o.1&&(h.2.1==o.2.1&&(h.2.2==o.2.2&&Q3)))).2.1,str (dm (h.1==o.1&&(h.2.1==o.2.1&&(h.2.2==o.2.2&&Q3)))).2.2]) [])):=kw
def F42:zZ:=aH [ze,ze] [ze] λx=>(km x.1 x.2.1,())
theorem zk6:FK 321 F42:=by
 refine ag zoP λx C h=>?_
 refine aZ jk zoP (λid _=>h id) (zrs x.1 x.2.1) ?_;simp only[Tr.val,km];repeat' split
 all_goals rfl
def qS(h:Sem ze)(o:Sem ze):Sem ze:=if(cond (!eW h o) Q3 (h.1!=1))=Q3 then(0,0,[])else if(cond (Q0 (o.2.1>0)) (cond (Q0 (Γ Δ (h.2.1+o.2.1)<h.2.1)) Q3 (cond (Q0 (o.2.1<0)) (Q0 (Γ Δ (h.2.1+o.2.1)>h.2.1)) Q4)) (cond (Q0 (o.2.1<0)) (Q0 (Γ Δ (h.2.1+o.2.1)>h.2.1)) Q4))=Q3 then(0,0,[])else(1,Γ Δ (h.2.1+o.2.1),[])
theorem zoS:zO mb.P 323 Tryz.f323 2:=bU kw
theorem zru(h:Sem ze)(o:Sem ze):rn mb 0 (λ_=>{ }) Tryz.f323 [zC ze h,zC ze o] []=br (cond (!eW h o) Q3 (h.1!=1)) (Tr.ok (zG.ret (Qd [ai 0,ai 0,str []]) [])) (br (cond (Q0 (o.2.1>0)) (cond (Q0 (Γ Δ (h.2.1+o.2.1)<h.2.1)) Q3 (cond (Q0 (o.2.1<0)) (Q0 (Γ Δ (h.2.1+o.2.1)>h.2.1)) Q4)) (cond (Q0 (o.2.1<0)) (Q0 (Γ Δ (h.2.1+o.2.1)>h.2.1)) Q4)) (Tr.ok (zG.ret (Qd [ai 0,ai 0,str []]) [])) (Tr.ok (zG.ret (Qd [ai 1,ai (Γ Δ (h.2.1+o.2.1)),str []]) []))):=kw
def F44:zZ:=aH [ze,ze] [ze] λx=>(qS x.1 x.2.1,())
theorem zk8:FK 323 F44:=by
 refine ag zoS λx C h=>?_
 refine aZ jk zoS (λid _=>h id) (zru x.1 x.2.1) ?_;simp only[Tr.val,qS];repeat' split
 all_goals rfl
def mG(h:Sem ze)(o:Sem ze):Sem ze:=if(cond (!eW h o) Q3 (h.1!=1))=Q3 then(0,0,[])else if(cond (Q0 (o.2.1>0)) (cond (Q0 (Γ Δ (h.2.1-o.2.1)>h.2.1)) Q3 (cond (Q0 (o.2.1<0)) (Q0 (Γ Δ (h.2.1-o.2.1)<h.2.1)) Q4)) (cond (Q0 (o.2.1<0)) (Q0 (Γ Δ (h.2.1-o.2.1)<h.2.1)) Q4))=Q3 then(0,0,[])else(1,Γ Δ (h.2.1-o.2.1),[])
theorem zoT:zO mb.P 324 Tryz.f324 2:=bU kw
theorem zrv(h:Sem ze)(o:Sem ze):rn mb 0 (λ_=>{ }) Tryz.f324 [zC ze h,zC ze o] []=br (cond (!eW h o) Q3 (h.1!=1)) (Tr.ok (zG.ret (Qd [ai 0,ai 0,str []]) [])) (br (cond (Q0 (o.2.1>0)) (cond (Q0 (Γ Δ (h.2.1-o.2.1)>h.2.1)) Q3 (cond (Q0 (o.2.1<0)) (Q0 (Γ Δ (h.2.1-o.2.1)<h.2.1)) Q4)) (cond (Q0 (o.2.1<0)) (Q0 (Γ Δ (h.2.1-o.2.1)<h.2.1)) Q4)) (Tr.ok (zG.ret (Qd [ai 0,ai 0,str []]) [])) (Tr.ok (zG.ret (Qd [ai 1,ai (Γ Δ (h.2.1-o.2.1)),str []]) []))):=kw
def F45:zZ:=aH [ze,ze] [ze] λx=>(mG x.1 x.2.1,())
theorem zk9:FK 324 F45:=by
 refine ag zoT λx C h=>?_
 refine aZ jk zoT (λid _=>h id) (zrv x.1 x.2.1) ?_;simp only[Tr.val,mG];repeat' split
 all_goals rfl
def Rl(h:Sem ze)(_:Sem ze):Sem ze:=A4 h
theorem zoN:zO mb.P 319 Tryz.f319 2:=bU kw
theorem zrq(h:Sem ze)(o:Sem ze):rn mb 0 (λ_=>{ }) Tryz.f319 [zC ze h,zC ze o] []=Tr.ok (zG.ret (Qd [ai (A4 h).1,ai (A4 h).2.1,str (A4 h).2.2]) []):=kw
def F40:zZ:=aH [ze,ze] [ze] λx=>(Rl x.1 x.2.1,())
theorem zk4:FK 319 F40:=by
 refine ag zoN λx C h=>?_
 refine aZ jk zoN (λid _=>h id) (zrq x.1 x.2.1) ?_;simp only[Tr.val,Rl];repeat' split
 all_goals rfl
def Kf(h:Sem ze)(_:Sem ze):Sem ze:=jH h
theorem zoU:zO mb.P 325 Tryz.f325 2:=bU kw
theorem zrw(h:Sem ze)(o:Sem ze):rn mb 0 (λ_=>{ }) Tryz.f325 [zC ze h,zC ze o] []=Tr.ok (zG.ret (Qd [ai (jH h).1,ai (jH h).2.1,str (jH h).2.2]) []):=kw
def F46:zZ:=aH [ze,ze] [ze] λx=>(Kf x.1 x.2.1,())
theorem zla:FK 325 F46:=by
 refine ag zoU λx C h=>?_
 refine aZ jk zoU (λid _=>h id) (zrw x.1 x.2.1) ?_;simp only[Tr.val,Kf];repeat' split
 all_goals rfl
noncomputable def sW:=mb.addL [(122,F60),(321,F42),(323,F44),(324,F45),(319,F40),(325,F46)]
theorem kL:zw sW:=jk.addL<|fc zlp<|fc zk6<|fc zk8<|fc zk9<|fc zk4<|fc zla iz
def tq(h:Sem ze)(o:Sem ze):Sem ze:=if(!eW h o)=Q3 then(0,0,[])else dm (Q0 (aX h o<0))
theorem zoR:zO sW.P 322 Tryz.f322 2:=bU kw
theorem zrt(h:Sem ze)(o:Sem ze):rn sW 0 (λ_=>{ }) Tryz.f322 [zC ze h,zC ze o] []=br (!eW h o) (Tr.ok (zG.ret (Qd [ai 0,ai 0,str []]) [])) (Tr.ok (zG.ret (Qd [ai (dm (Q0 (aX h o<0))).1,ai (dm (Q0 (aX h o<0))).2.1,str (dm (Q0 (aX h o<0))).2.2]) [])):=kw
def F43:zZ:=aH [ze,ze] [ze] λx=>(tq x.1 x.2.1,())
theorem zk7:FK 322 F43:=by
 refine ag zoR λx C h=>?_
 refine aZ kL zoR (λid _=>h id) (zrt x.1 x.2.1) ?_;simp only[Tr.val,tq];repeat' split
 all_goals rfl
def FM(h:Sem ze):Sem ze:=if Q0 ((↑(Io h.2.2):Int)>60)=Q3 then(h.1,h.2.1,Qg (toNat 60-toNat 0) (Qh (toNat 0) h.2.2))else h
def M3(h:Sem ze):Bool:=bif Q0 ((↑(Io h.2.2):Int)>60)then Q0 (0<=0)&&Q0 (0<=60)&&Q0 (60<=(↑(Io h.2.2):Int))else Q3
theorem zov:zO sW.P 85 Tryz.f85 1:=bU kw
theorem zq9(h:Sem ze):rn sW 0 (λ_=>{ }) Tryz.f85 [zC ze h] []=br (Q0 ((↑(Io h.2.2):Int)>60)) (chk (Q0 (0<=0)&&Q0 (0<=60)&&Q0 (60<=(↑(Io h.2.2):Int))) (Tr.ok (zG.ret (Qd [ai h.1,ai h.2.1,str (Qg (toNat 60-toNat 0) (Qh (toNat 0) h.2.2))]) []))) (Tr.ok (zG.ret (Qd [ai h.1,ai h.2.1,str h.2.2]) [])):=kw
def F14:zZ:=zT [ze] [ze] (λx=>M3 x.1) λx=>(FM x.1,())
theorem zcY:FK 85 F14:=by
 refine aM zov λx o C h=>?_
 refine aZ kL zov (λid _=>h id) (zq9 x.1) ?_;simp only[M3,Bool.cond_eq_ite]at o;simp only[Tr.val,FM];repeat' split
 all_goals first|rfl|simp_all
def jy(h:Sem Q6):Sem Q6:=if Q0 ((↑(Io h):Int)>20)=Q3 then Qg (toNat 20-toNat 0) (Qh (toNat 0) h)else h
def QZ(h:Sem Q6):Bool:=bif Q0 ((↑(Io h):Int)>20)then Q0 (0<=0)&&Q0 (0<=20)&&Q0 (20<=(↑(Io h):Int))else Q3
theorem zou:zO sW.P 135 Tryz.f135 1:=bU kw
theorem zq8(h:Sem Q6):rn sW 0 (λ_=>{ }) Tryz.f135 [zC Q6 h] []=br (Q0 ((↑(Io h):Int)>20)) (chk (Q0 (0<=0)&&Q0 (0<=20)&&Q0 (20<=(↑(Io h):Int))) (Tr.ok (zG.ret (str (Qg (toNat 20-toNat 0) (Qh (toNat 0) h))) []))) (Tr.ok (zG.ret (str h) [])):=kw
def F12:zZ:=zT [Q6] [Q6] (λx=>QZ x.1) λx=>(jy x.1,())
theorem zcX:FK 135 F12:=by
 refine aM zou λx o C h=>?_
 refine aZ kL zou (λid _=>h id) (zq8 x.1) ?_;simp only[QZ,Bool.cond_eq_ite]at o;simp only[Tr.val,jy];repeat' split
 all_goals first|rfl|simp_all
noncomputable def F79:zZ:=bp (List.replicate 2 Q2) (fA sW Tryz.f297 (List.replicate 2 Q2))
theorem zlC:FK 297 F79:=ch _ kL (bU kw)
noncomputable def F18:zZ:=bp (List.replicate 2 Q2) (fA sW Tryz.f220 (List.replicate 2 Q2))
theorem zkP:FK 220 F18:=ch _ kL (bU kw)
noncomputable def zc9:=sW.addL [(322,F43),(85,F14),(135,F12),(297,F79),(220,F18)]
theorem xx:zw zc9:=kL.addL<|fc zk7<|fc zcY<|fc zcX<|fc zlC<|fc zkP iz
open Go
def uz:(ks:List Sh)->zz (ks.map Q1++[Q2])->zz (ks.map Q1)×AV
 |[],x=>((),x.1)
 |_::ks,x=>((x.1,(uz ks x.2).1),(uz ks x.2).2)
theorem Ct:∀(ks:List Sh)(x:zz (ks.map Q1++[Q2])),jB (ks.map Q1++[Q2]) x=jB (ks.map Q1) (uz ks x).1++[(uz ks x).2]
 |[],_=>rfl
 |s::ks,x=>congrArg (zC s x.1::·) (Ct ks x.2)
def VV(k:Nat):AV->Bool
 |.clo (.func j) [] []=>j==k
 |_=>Q4
theorem VW{k:Nat}{v:AV}(h:VV k v=Q3):v=.clo (.func k) [] []:=by
 unfold VV at h;split at h
 ·rw[bh]at h;rw[h]
 ·cases h
abbrev TI(ks outs:List Sh):=Nat×(zz (ks.map Q1)->Bool)×(zz (ks.map Q1)->zz (outs.map Q1))
def ZO{ks outs:List Sh}(v:AV):List (TI ks outs)->Option ((zz (ks.map Q1)->Bool)×(zz (ks.map Q1)->zz (outs.map Q1)))
 |[]=>Q2
 |(k,a)::r=>if VV k v then Q1 a else ZO v r
theorem KG{ks outs:List Sh}{v:AV}{a}:∀{l:List (TI ks outs)},ZO v l=Q1 a->∃k,v=.clo (.func k) [] []/\(k,a)∈l
 |[],h=>by cases h
 | (k,b)::r,h=>by
  unfold ZO at h;split at h
  ·rename_i z;cases h;exact⟨k,VW z,uG ..⟩
  ·obtain⟨j,o,u⟩:=KG h;exact⟨j,o,mO _ u⟩
def QB(ks outs:List Sh)(l:List (TI ks outs)):iU (ks.map Q1++[Q2]):=λx h=>match h with
 | []=>match ZO (uz ks x).2 l with
  |some (c,g)=>.chk (c (uz ks x).1) (.ok (wA outs (g (uz ks x).1),[]))
  |none=>.err
 |_=>.err
def Xu(ks outs:List Sh)(l:List (TI ks outs)):zZ:=bp (ks.map Q1++[Q2]) (QB ks outs l)
theorem Nb{P:Program}{z:Nat->AV}{E:bZ}{k:FuncId}{f:Func}{ks outs:List Sh}{l:List (TI ks outs)}(F:zO E.P k f (Io ks+1))
  (h:∀j c g,(j,c,g)∈l->∀x,c x=Q3->∀C:ff,(∀id,C.ρ0 id=Q2)->Reach E C k (bC f) (bl f.ntmps (jB (ks.map Q1) x++[.clo (.func j) [] []]) []) (λr h=>aI h outs r=Q1 (g x))) (J:E.P=P:=by rfl) (I:E.gl=z:=by rfl):pn P z k (Xu ks outs l):=by
 subst J I;refine dX (by simpa using F) λx M L o C B=>?_
 unfold QB at o;split at o
 ·split at o
  ·rename_i c g u;obtain⟨j,H,G⟩:=KG u;simp only[Tr.val]at o;split at o
   ·rename_i D;simp only[bH]at o;subst o;rw[Ct,H];exact Reach.plain (λid=>B id (by simp)) (h j c g G _ D C (λid=>B id (by simp)))
   ·simp at o
  ·simp at o
 ·simp at o
inductive CP where
 |d (s:Sh)
 |nil
 |vec (e:Sh)
@[reducible] def zl:List CP->Type
 |[]=>Unit
 |.d s::r=>Sem s×zl r
 |.nil::r=>zl r
 |.vec e::r=>List (Sem e)×zl r
def eM:(n:Nat)->(ps:List CP)->zl ps->List AV
 |_,[],_=>[]
 |n,.d s::r,y=>zu s y.1++eM n r y.2
 |n,.nil::r,y=>.nils::eM n r y
 |n,.vec _::r,y=>.vec n::eM (n+1) r y.2
def gw:(ps:List CP)->zl ps->List AO
 |[],_=>[]
 |.d _::r,y=>gw r y.2
 |.nil::r,y=>gw r y
 |.vec e::r,y=>.vec e y.1::gw r y.2
def ay(ps:List CP)(y:zl ps):List AO:=.box (eM 1 ps y)::gw ps y
def ba:List CP->Nat
 |[]=>0
 |.vec _::r=>ba r+1
 |_::r=>ba r
theorem bP:∀(ps:List CP)(y:zl ps),(gw ps y).length=ba ps
 |[],_=>rfl
 |.d _::r,y=>bP r y.2
 |.nil::r,y=>bP r y
 |.vec _::r,y=>congrArg (·+1) (bP r y.2)
def cE(hp:Nat->AO):(n:Nat)->(ps:List CP)->List AV->Option (zl ps)
 |_,[],[]=>Q1 ()
 | n,.d s::r,cs=>match cV (fun _=>.dead) s cs with
  | some (x,cs')=>match cE hp n r cs' with
   |some y=>Q1 (x,y)
   |none=>Q2
  |none=>Q2
 |n,.nil::r,.nils::cs=>cE hp n r cs
 | n,.vec e::r,.vec id::cs=>if id=n then match hp id with
   | .vec o l=>if h:o=e then match cE hp (n+1) r cs with
     |some y=>Q1 (h▸l,y)
     |none=>Q2
    else Q2
   |_=>Q2
  else Q2
 |_,_,_=>Q2
section
variable {w:World} {U:Nat->Prop} {ρ:Nat->Option Value}
theorem dA.app{a b:List AV}{C D:List Value}(h:dA w U ρ a C)(z:dA w U ρ b D):dA w U ρ (a++b) (C++D) where
 len:=by simp[h.len,z.len]
 rv:=by
  intro j c v o u;by_cases B:j<Io a
  ·rw[mR B]at o;rw[mR (by rw[<-h.len];exact B)]at u;exact h.rv j c v o u
  ·rw[pq ow]at o;rw[pq (by rw[<-h.len];omega),<-h.len]at u;exact z.rv _ c v o u
theorem dA.tail{a:AV}{l:List AV}{v:Value}{vs:List Value}(h:dA w U ρ (a::l) (v::vs)):dA w U ρ l vs:=
 ⟨by have:=h.len;simpa using this,λj c x o u=>h.rv (j+1) c x (by simpa using o) (by simpa using u)⟩
theorem dA.consH{a:AV}{l:List AV}{v:Value}{vs:List Value}(z:Rv w U ρ a v)(u:dA w U ρ l vs):dA w U ρ (a::l) (v::vs) where
 len:=by simp[u.len]
 rv:=by
  intro j c x h o;cases j with
  |zero=>simp at h o;subst h;subst o;exact z
  |succ j=>exact u.rv j c x (by simpa using h) (by simpa using o)
theorem fJ{hp:Nat->AO}:∀(ps:List CP)(n:Nat)(cs:List AV)(y:zl ps)(u:List Value),cE hp n ps cs=Q1 y->dA w U ρ cs u->
  dA w U ρ (eM n ps y) u/\∀(j:Nat) o,(gw ps y)[j]?=Q1 o->hp (n+j)=o
 |[],n,[],y,u,h,z=>⟨z,by simp[gw]⟩
 |[],n,_::_,y,u,h,z=>by simp[cE]at h
 | .d s::r,n,cs,y,u,h,z=>by
  unfold cE at h;split at h
  ·rename_i x cs' X;split at h
   ·rename_i O M;cases h
    have Y:=ot (w:=w) (U:=U) (U':=U) (ρ:=ρ) (hp:=λ_=>.dead) (λ_ h=>h) s cs x cs' (λj=>u.getD j undef) X
     (λj c C=>by
      have H:j<Io u:=by rw[<-z.len];exact(dn.1 C).1
      have:=z.rv j c u[j] C (zU H);simpa[List.getD,zU H]using this)
     (λid _=>⟨trivial,λb T=>by simp[ar,AO.owns]at T⟩)
    obtain⟨k1,S,k3⟩:=Y;have D:dA w U ρ cs' (u.drop s.size):=by
     refine⟨by rw[S];simp[z.len],λj c v C B=>?_⟩;rw[S,F4]at C;rw[F4]at B;exact z.rv _ c v C B
    obtain⟨I,J⟩:=fJ r n cs' O (u.drop s.size) M D;refine⟨?_,J⟩;have F:dA w U ρ (zu s x) (u.take s.size):=by
     refine⟨by rw[ac];have:=z.len;simp;omega,λj c v C B=>?_⟩;have G:j<s.size:=by rw[<-ac s x];exact(dn.1 C).1
     rw[List.getElem?_take,if_pos G]at B;have:=k3 j c C;simpa[List.getD,B]using this
    have:=F.app I;rw[List.take_append_drop]at this;exact this
   ·cases h
  ·cases h
 | .nil::r,n,.nils::cs,y,u,h,z=>by
  match u,z with
  |[],z=>have:=z.len;simp at this
  | v::vs,z=>
   have B:=z.rv 0 _ v rfl rfl;obtain⟨I,J⟩:=fJ r n cs y vs h z.tail;exact⟨dA.consH B I,J⟩
 | .vec e::r,n,.vec id::cs,y,u,h,z=>by
  match u,z with
  |[],z=>have:=z.len;simp at this
  | v :: vs,z=>
   have B:=z.rv 0 _ v rfl rfl;unfold cE at h;split at h
   ·rename_i L;subst L;split at h
    ·rename_i e' l Z;split at h
     ·rename_i W;subst W;split at h
      ·rename_i O M;cases h;obtain⟨I,J⟩:=fJ r (id+1) cs O vs M z.tail;refine⟨dA.consH B I,λj o G=>?_⟩;cases j with
       |zero=>simp[gw]at G;subst G;exact Z
       | succ j=>
        have:=J j o (by simpa[gw]using G);rw[<-this];congr 1;omega
      ·cases h
     ·cases h
    ·cases h
   ·cases h
 |.nil::_,_,[],_,_,h,_=>by simp[cE]at h
 |.vec _::_,_,[],_,_,h,_=>by simp[cE]at h
 |.nil::_,_,.any::_,_,_,h,_|.nil::_,_,.kb _::_,_,_,h,_|.nil::_,_,.bool _::_,_,_,h,_|.nil::_,_,.int _ _::_,_,_,h,_|.nil::_,_,.str _::_,_,_,h,_
 |.nil::_,_,.sl _ _::_,_,_,h,_|.nil::_,_,.vec _::_,_,_,h,_|.nil::_,_,.ptr _ _::_,_,_,h,_|.nil::_,_,.vptr _ _ _ _::_,_,_,h,_|.nil::_,_,.eptr _ _::_,_,_,h,_
 |.nil::_,_,.nilp::_,_,_,h,_|.nil::_,_,.agg _::_,_,_,h,_|.nil::_,_,.tup _::_,_,_,h,_|.nil::_,_,.clo _ _ _::_,_,_,h,_|.nil::_,_,.nilf::_,_,_,h,_
 |.nil::_,_,.mp _::_,_,_,h,_|.nil::_,_,.ifc _::_,_,_,h,_|.nil::_,_,.tab _ _::_,_,_,h,_|.nil::_,_,.gint::_,_,_,h,_=>by simp[cE]at h
 |.vec _::_,_,.any::_,_,_,h,_|.vec _::_,_,.kb _::_,_,_,h,_|.vec _::_,_,.bool _::_,_,_,h,_|.vec _::_,_,.int _ _::_,_,_,h,_|.vec _::_,_,.str _::_,_,_,h,_
 |.vec _::_,_,.sl _ _::_,_,_,h,_|.vec _::_,_,.nils::_,_,_,h,_|.vec _::_,_,.ptr _ _::_,_,_,h,_|.vec _::_,_,.vptr _ _ _ _::_,_,_,h,_|.vec _::_,_,.eptr _ _::_,_,_,h,_
 |.vec _::_,_,.nilp::_,_,_,h,_|.vec _::_,_,.agg _::_,_,_,h,_|.vec _::_,_,.tup _::_,_,_,h,_|.vec _::_,_,.clo _ _ _::_,_,_,h,_|.vec _::_,_,.nilf::_,_,_,h,_
 |.vec _::_,_,.mp _::_,_,_,h,_|.vec _::_,_,.ifc _::_,_,_,h,_|.vec _::_,_,.tab _ _::_,_,_,h,_|.vec _::_,_,.gint::_,_,_,h,_=>by simp[cE]at h
end
theorem jI.box{C:ff}{w:World}{U:Nat->Prop}{ρ:Nat->Option Value}{cs:List AV}{os:List AO}{ps:List CP}{y:zl ps}(F:jI C w U ρ (λj=>((Qa cs::os).getD j .dead)))(hl:Io os=ba ps)
  (Y:cE (kj (.box cs::os)) 1 ps cs=Q1 y):jI C w U ρ (λj=>(ay ps y).getD j .dead):=by
 have I:bF w U ρ 0 (.box cs):=F.ob 0;obtain⟨b,T,B,J,L,M,O,S⟩:=I;obtain⟨k1,k2⟩:=fJ ps 1 cs y B.toList Y O;have z:∀id,id≠0->(ay ps y).getD id .dead=(Qa cs::os).getD id .dead:=by
  intro id h;obtain⟨j,rfl⟩:∃j,id=j+1:=⟨id-1,ow⟩;by_cases G:j<(gw ps y).length
  ·have:=k2 j _ (zU G);unfold ay;simp only[Cj];rw[aS,zU G];simp only[kj,o9 1 j,Cj]at this;simpa using this.symm
  ·have W:Io os<=j:=by rw[bP]at G;omega
   unfold ay;simp only[Cj];rw[aS,aS,eC ow,eC W]
 have u:∀id b,ar ρ id ((ay ps y).getD id .dead) b->ar ρ id ((Qa cs::os).getD id .dead) b:=by
  intro id D ho;by_cases h:id=0
  ·subst h;obtain⟨_,v,Z,X⟩:=ho;exact⟨rfl,v,Z,X⟩
  ·rw[z id h]at ho;exact ho
 refine⟨λid=>?_,λid1 H D o1 o2=>F.inj id1 H D (u _ _ o1) (u _ _ o2),λid D o=>F.blk id D (u _ _ o)⟩;by_cases h:id=0
 ·subst h;exact⟨b,T,B,J,L,M,k1,S⟩
 ·show bF w U ρ id ((ay ps y).getD id .dead);rw[z id h];exact F.ob id
def tF(ps:List CP)(outs:List Sh)(r:AV)(h:List AO):Option (zz (outs.map Q1)×zl ps):=match h with
 | .box cs::os=>if Io os=ba ps then match aI [] outs r,cE (kj (.box cs::os)) 1 ps cs with
   |some a,Q1 y=>Q1 (a,y)
   |_,_=>Q2
  else Q2
 |_=>Q2
def zl9(ps:List CP)(ks outs:List Sh)(o:List CP)(c:zl ps->zz (ks.map Q1)->Bool)(g:zl ps->zz (ks.map Q1)->zz (outs.map Q1)×zl o):iU (Q2::ks.map Q1):=λx h=>match x.1,h with
 | .ptr 0 0,.box cs::os=>if Io os=ba ps then match cE (kj (.box cs::os)) 1 ps cs with
   |some y=>.chk (c y x.2) (.ok (wA outs (g y x.2).1,ay o (g y x.2).2))
   |none=>.err
  else .err
 |_,_=>.err
def sE(ps:List CP)(ks outs:List Sh)(h:List CP)(c:zl ps->zz (ks.map Q1)->Bool)(g:zl ps->zz (ks.map Q1)->zz (outs.map Q1)×zl h):zZ:=bp (Q2::ks.map Q1) (zl9 ps ks outs h c g)
theorem sV(ps:List CP)(y:zl ps):(ay ps y).length=ba ps+1:=by
 simp[ay,bP]
theorem HL{w:World}{U:Nat->Prop}{ρ:Nat->Option Value}{outs:List Sh}{r:AV}{y:zz (outs.map Q1)}{v:Value}(h:aI [] outs r=Q1 y)(C:Rv w U ρ r v):Rv w U ρ (wA outs y) v:=by
 have B:∀id,bF w U ρ id (kj [] id)/\∀b,ar ρ id (kj [] id) b->¬U b:=λid=>⟨by simp[kj,bF],λb z=>by simp[kj,ar,AO.owns]at z⟩
 have o:∀(outs:List Sh)(y:zz (outs.map Q1))(u:List AV),mi (kj []) (λi=>i) (outs.map Q1) u=Q1 y->Rv w U ρ (.tup u) v->Rv w U ρ (.tup (jB (outs.map Q1) y)) v:=by
  intro outs y u I F;cases F with
  |tup _ vs G D=>
  have:=(jR (w:=w) (U:=U) (ρ:=ρ) (U':=U) (ρ':=ρ) (hp:=kj []) (f:=λi=>i) (λb z=>z) (outs.map Q1) u vs _ (qt outs u y I) ⟨G,D⟩ (λid _=>B id)
   (λid _=>rfl)).1
  simp only[pM,uH,zA,if_false,List.map_id']at this;exact .tup _ vs this.len this.rv
 match outs,y,h with
 | [s],y,h=>
  simp only[aI]at h;split at h
  ·rename_i x H;cases h;exact CJ H C (λb z=>z) (λid _=>B id)
  ·cases h
 | [],y,h=>
  simp only[aI]at h;cases r with
  |tup u=>exact o [] y _ h C
  |_=>cases h
 | J::s2::ss,y,h=>
  simp only[aI]at h;cases r with
  |tup u=>exact o _ y _ h C
  |_=>cases h
theorem ZE{P:Program}{Z:Nat->AV}{E:bZ}{k:FuncId}{f:Func}{ps:List CP}{ks outs:List Sh}{G:List CP}{c:zl ps->zz (ks.map some)->Bool}{g:zl ps->zz (ks.map some)->zz (outs.map some)×zl G}(hf:zO E.P k f (Io ks+1))
  (h:∀y x,c y x=Q3->∀C:ff,(∀id,ba ps+1<=id->C.ρ0 id=Q2)->Reach E C k (bC f) (bl f.ntmps (.ptr 0 0::jB (ks.map Q1) x) (ay ps y)) (λr h=>tF G outs r h=Q1 (g y x))) (qp:E.P=P:=by rfl) (qg:E.gl=Z:=by rfl):
  pn P Z k (sE ps ks outs G c g):=by
 subst qp qg;refine dX (by simpa using hf) λx h0 h5 u C hC=>?_
 obtain⟨x0,x⟩:=x;unfold zl9 at u;simp only at u;split at u
 ·rename_i cs os;split at u
  ·rename_i F;split at u
   ·rename_i y hy;simp only[Tr.val]at u;split at u
    ·rename_i hc;simp only[bH]at u;subst u;have hR:=h y x hc C (λid o=>hC id (by simpa[F]using o));intro b J a w U ρ h1 h2 z hW;have hH:jI C w U ρ (λj=>((Qa cs::os).getD j .dead)):=z.hp
     have H:Cn C (bl f.ntmps (.ptr 0 0::jB (ks.map Q1) x) (ay ps y)) a w U ρ:=
      ⟨z.tm,hH.box F hy,λid o=>z.new id (by have o:(ay ps y).length<=id:=o;rw[sV]at o;simpa[bl,F]using o),z.df,z.r0⟩
     obtain⟨e,w',fr,⟨v,r,h',U',ρ',he,B,X,L,I,W,M⟩,S,T,hl⟩:=hR b J a w U ρ h1 h2 H hW;unfold tF at B;split at B
     ·rename_i h3 h4;split at B
      ·rename_i D;split at B
       ·rename_i a' y' O Y;simp only[bH]at B;refine⟨e,w',fr,⟨v,_,_,U',ρ',he,by rw[<-B],HL O X,L.box D Y,λid o=>I id (by rw[sV]at o;simpa[D]using o),W,M⟩,S,T,hl⟩
       ·cases B
      ·cases B
     ·cases B
    ·simp at u
   ·simp at u
  ·simp at u
 ·simp at u
def vC(E:bZ)(n0:Nat)(keep:Nat->aN)(f:Func)(gas:Nat):Nat->List Item->St->Option (AV×List AO)
 |0,_,_=>Q2
 | n+1,K,st=>match (run E n0 keep f.results.toList gas K st).val with
  |some (.ret v h)=>Q1 (v,h)
  |some (.head _ u o)=>vC E n0 keep f gas n u o
  |_=>Q2
theorem ql{E:bZ}{C:ff}{k:FuncId}{f:Func}{Q:AV->List AO->Prop}{m n0:Nat}(u:zw E)(z:zO E.P k f m)(o:∀id,n0<=id->C.ρ0 id=Q2){keep:Nat->aN}{gas:Nat}:
  ∀(n:Nat)(K:List Item)(st:St)(r:AV×List AO),vC E n0 keep f gas n K st=Q1 r->Q r.1 r.2->Reach E C k K st Q
 |0,_,_,_,h,_=>by cases h
 | n+1,K,st,r,h,F=>by
  unfold vC at h;split at h
  ·rename_i v H B;cases h;exact nF u z o B F
  ·rename_i j G D B;exact nF u z o B (ql u z o n G D r h F)
  ·cases h
def bQ:(outs:List Sh)->zz (outs.map Q1)
 |[]=>()
 |s::r=>(zi s,bQ r)
def fK:(ps:List CP)->zl ps
 |[]=>()
 |.d s::r=>(zi s,fK r)
 |.nil::r=>fK r
 |.vec _::r=>([],fK r)
def bb:List Nat->(ps:List CP)->zl ps->List AV
 |_,[],_=>[]
 |n,.d s::r,y=>zu s y.1++bb n r y.2
 |n,.nil::r,y=>.nils::bb n r y
 |n,.vec _::r,y=>.vec (n.headD 0)::bb n.tail r y.2
def itO(E:bZ)(keep:Nat->aN)(f:Func)(gas n:Nat)(ks outs:List Sh)(x:zz (ks.map Q1)):Option (zz (outs.map Q1)):=
 (vC E 0 keep f gas n (bC f) (bl f.ntmps (jB (ks.map Q1) x) [])).bind λr=>aI r.2 outs r.1
def Oy(ks outs:List Sh)(g:zz (ks.map Q1)->Option (zz (outs.map Q1))):zZ:=zT ks outs (λx=>(g x).isSome) λx=>(g x).getD (bQ outs)
theorem zgr{P:Program}{o:Nat->AV}{E:bZ}{k:FuncId}{f:Func}{ks outs:List Sh}{keep:Nat->aN}{gas n:Nat}(G:zw E)(z:zO E.P k f (Io ks))(I:E.P=P:=by rfl)(H:E.gl=o:=by rfl):pn P o k (Oy ks outs (itO E keep f gas n ks outs)):=by
 subst I H;refine aM z λx u C F=>?_
 rw[Option.isSome_iff_exists]at u;obtain⟨y,h⟩:=u;rw[h];unfold itO at h;rw[gq]at h;obtain⟨r,B,D⟩:=h;exact ql G z (λid _=>F id) n _ _ r B D
def itB(E:bZ)(keep:Nat->aN)(f:Func)(gas n:Nat)(ps:List CP)(ks outs:List Sh)(h:List CP)(y:zl ps)(x:zz (ks.map Q1)):Option (zz (outs.map Q1)×zl h):=
 (vC E (ba ps+1) keep f gas n (bC f) (bl f.ntmps (.ptr 0 0::jB (ks.map Q1) x) (ay ps y))).bind λr=>tF h outs r.1 r.2
def zqn(ps:List CP)(ks outs:List Sh)(h:List CP)(g:zl ps->zz (ks.map Q1)->Option (zz (outs.map Q1)×zl h)):zZ:=
 sE ps ks outs h (λy x=>(g y x).isSome) λy x=>(g y x).getD (bQ outs,fK h)
theorem ZF{P:Program}{u:Nat->AV}{E:bZ}{k:FuncId}{f:Func}{ps:List CP}{ks outs:List Sh}{h:List CP}{keep:Nat->aN}{gas n:Nat}(I:zw E)(D:zO E.P k f (Io ks+1))(L:E.P=P:=by rfl)(J:E.gl=u:=by rfl):pn P u k (zqn ps ks outs h (itB E keep f gas n ps ks outs h)):=by
 subst L J;refine ZE D λy x B C H=>?_
 rw[Option.isSome_iff_exists]at B;obtain⟨z,o⟩:=B;rw[o];unfold itB at o;rw[gq]at o;obtain⟨r,F,G⟩:=o;exact ql I D H n _ _ r F G
theorem Nc{P:Program}{z:Nat->AV}{k:FuncId}{ks outs:List Sh}{g:zz (ks.map Q1)->Option (zz (outs.map Q1))}{c:zz (ks.map Q1)->Bool}{u:zz (ks.map Q1)->zz (outs.map Q1)}(h:pn P z k (Oy ks outs g))(C:∀x,c x=Q3->g x=Q1 (u x)):pn P z k (zT ks outs c u):=by
 refine A6 (ι:=Unit) (Gs:=λ_=>eQ ks outs (λx=>(g x).isSome) λx=>(g x).getD (bQ outs)) (λ_=>h) λx F D o=>⟨(),?_⟩
 unfold eQ at o⊢;split at o
 ·simp only[Tr.val]at o⊢;split at o
  ·rename_i B;simp only[C x B,F5,if_true,dv];exact o
  ·simp at o
 ·simp at o
theorem g6{P:Program}{u:Nat->AV}{k:FuncId}{ks outs:List Sh}{g:zz (ks.map Q1)->Option (zz (outs.map Q1))}{o:zz (ks.map Q1)->zz (outs.map Q1)}(h:pn P u k (Oy ks outs g))(z:∀x,g x=Q1 (o x)):pn P u k (aH ks outs o):=
 Pp (Nc h λx _=>z x)
theorem ZG{P:Program}{h:Nat->AV}{E:bZ}{k:FuncId}{f:Func}{ks outs:List Sh}{keep:Nat->aN}{gas n:Nat}{c:zz (ks.map Q1)->Bool}{g:zz (ks.map Q1)->zz (outs.map Q1)}(o:zw E)(z:zO E.P k f (Io ks))
  (u:∀x,c x=(itO E keep f gas n ks outs x).isSome) (B:∀x,g x=(itO E keep f gas n ks outs x).getD (bQ outs)) (D:E.P=P:=by rfl) (C:E.gl=h:=by rfl):pn P h k (zT ks outs c g):=by
 subst D C;obtain rfl:c=λx=>(itO E keep f gas n ks outs x).isSome:=funext u
 obtain rfl:g=λx=>(itO E keep f gas n ks outs x).getD (bQ outs):=funext B
 exact zgr o z
theorem TX{P:Program}{o:Nat->AV}{E:bZ}{k:FuncId}{f:Func}{ps:List CP}{ks outs:List Sh}{h:List CP}{keep:Nat->aN}{gas n:Nat}{c:zl ps->zz (ks.map Q1)->Bool}{g:zl ps->zz (ks.map Q1)->zz (outs.map Q1)×zl h}(u:zw E)(B:zO E.P k f (Io ks+1))
  (z:∀y x,c y x=(itB E keep f gas n ps ks outs h y x).isSome) (C:∀y x,g y x=(itB E keep f gas n ps ks outs h y x).getD (bQ outs,fK h)) (F:E.P=P:=by rfl) (D:E.gl=o:=by rfl):pn P o k (sE ps ks outs h c g):=by
 subst F D;obtain rfl:c=λy x=>(itB E keep f gas n ps ks outs h y x).isSome:=funext λy=>funext λx=>z y x
 obtain rfl:g=λy x=>(itB E keep f gas n ps ks outs h y x).getD (bQ outs,fK h):=funext λy=>funext λx=>C y x
 exact ZF u B
abbrev aw:=AV×List AO
def Tr.map{α β:Type}(f:α->β):Tr α->Tr β
 |.err=>.err
 |.chk c t=>.chk c (t.map f)
 |.br c t e=>.br c (t.map f) (e.map f)
 |.ok a=>.ok (f a)
theorem Tr.val_map{α β:Type}(f:α->β):∀t:Tr α,(t.map f).val=t.val.map f
 |.err=>rfl
 |.chk c t=>by simp only[Tr.map,Tr.val,val_map f t];split<;>rfl
 |.br c t e=>by simp only[Tr.map,Tr.val,val_map f t,val_map f e];split<;>rfl
 |.ok _=>rfl
abbrev Tr.to{σ:Type}(s:σ):Tr (σ⊕aw):=.ok (.inl s)
abbrev Tr.re{σ:Type}(v:AV)(h:List AO):Tr (σ⊕aw):=.ok (.inr (v,h))
def dh{σ:Type}(t:σ->Tr (σ⊕aw)):Nat->σ->Option aw
 |0,_=>Q2
 | n+1,s=>match (t s).val with
  |some (.inl h)=>dh t n h
  |some (.inr r)=>Q1 r
  |none=>Q2
def dd{σ:Type}(t:σ->Tr (σ⊕aw))(n:Nat)(i:Tr (σ⊕aw)):Option aw:=match i.val with
 |some (.inl s)=>dh t n s
 |some (.inr r)=>Q1 r
 |none=>Q2
def lf{σ:Type}(f:Func)(e:σ->Nat×St):σ⊕aw->zG
 |.inl s=>.head (e s).1 (aj f (e s).1) (e s).2
 |.inr r=>.ret r.1 r.2
def e0:Empty->Nat×St:=λx=>nomatch x
def t0:Empty->Tr (Empty⊕aw):=λx=>nomatch x
section
variable {σ:Type} {E:bZ} {n0:Nat} {keep:Nat->aN} {f:Func} {gas:Nat} {e:σ->Nat×St} {t:σ->Tr (σ⊕aw)}
theorem P0(h:∀s,run E n0 keep f.results.toList gas (aj f (e s).1) (e s).2=(t s).map (lf f e)):∀(n:Nat)(s:σ),vC E n0 keep f gas n (aj f (e s).1) (e s).2=dh t n s
 |0,_=>rfl
 | n+1,s=>by
  rw[vC,h s,Tr.val_map,dh];cases(t s).val with
  |none=>rfl
  | some l=>
   cases l with
   |inl o=>exact P0 h n o
   |inr r=>rfl
theorem ov(o:∀s,run E n0 keep f.results.toList gas (aj f (e s).1) (e s).2=(t s).map (lf f e)){K:List Item}{st:St}{i:Tr (σ⊕aw)}(h:run E n0 keep f.results.toList gas K st=i.map (lf f e))(n:Nat):vC E n0 keep f gas (n+1) K st=dd t n i:=by
 rw[vC,h,Tr.val_map,dd];cases i.val with
 |none=>rfl
 | some l=>
  cases l with
  |inl s=>exact P0 o n s
  |inr r=>rfl
end
def al{σ:Type}(outs:List Sh)(t:σ->Tr (σ⊕aw))(n:Nat)(i:Tr (σ⊕aw)):Option (zz (outs.map Q1)):=(dd t n i).bind λr=>aI r.2 outs r.1
theorem kY{P:Program}{z:Nat->AV}{σ:Type}{E:bZ}{k:FuncId}{f:Func}{ks outs:List Sh}{keep:Nat->aN}{gas n:Nat}{e:σ->Nat×St}{t:σ->Tr (σ⊕aw)}{i:zz (ks.map Q1)->Tr (σ⊕aw)}{c:zz (ks.map Q1)->Bool}{g:zz (ks.map Q1)->zz (outs.map Q1)}
  (B:zw E) (D:zO E.P k f (Io ks)) (o:∀x,run E 0 keep f.results.toList gas (bC f) (bl f.ntmps (jB (ks.map Q1) x) [])=(i x).map (lf f e))
  (u:∀s,run E 0 keep f.results.toList gas (aj f (e s).1) (e s).2=(t s).map (lf f e))
  (C:∀x,c x=(al outs t n (i x)).isSome) (F:∀x,g x=(al outs t n (i x)).getD (bQ outs)) (H:E.P=P:=by rfl) (G:E.gl=z:=by rfl):pn P z k (zT ks outs c g):=by
 subst H G;have h:∀x,itO E keep f gas (n+1) ks outs x=al outs t n (i x):=by
  intro x;unfold itO al;rw[ov u (o x)]
 exact ZG (n:=n+1) B D (λx=>by rw[h,C]) (λx=>by rw[h,F])
theorem zbu{σ:Type}{E:bZ}{C:ff}{k:FuncId}{f:Func}{outs:List Sh}{m n0 n gas:Nat}{keep:Nat->aN}{e:σ->Nat×St}{t:σ->Tr (σ⊕aw)}{i:Tr (σ⊕aw)}{K:List Item}{st:St}{y:zz (outs.map Q1)}(F:zw E)(G:zO E.P k f m)(D:∀id,n0<=id->C.ρ0 id=Q2)
  (o:run E n0 keep f.results.toList gas K st=i.map (lf f e)) (u:∀s,run E n0 keep f.results.toList gas (aj f (e s).1) (e s).2=(t s).map (lf f e)) (h:al outs t n i=Q1 y):Reach E C k K st (λr h=>aI h outs r=Q1 y):=by
 unfold al at h;rw[gq]at h;obtain⟨r,z,B⟩:=h;rw[<-ov u o n]at z;exact ql F G D (n+1) _ _ r z B
abbrev k0:Nat->aN:=λ_=>{ }
abbrev kR:List (Nat×List Nat)->Nat->aN
 |[],_=>{ }
 |p::r,j=>if j=p.1 then{slots:=p.2}else kR r j
def o1{a:Sh}(o:Option (zz [Q1 a])):Sem a:=(o.getD (bQ [a])).1
def o2{a b:Sh}(o:Option (zz [Q1 a,Q1 b])):Sem a×Sem b:=((o.getD (bQ [a,b])).1,(o.getD (bQ [a,b])).2.1)
def o3{a b c:Sh}(o:Option (zz [Q1 a,Q1 b,Q1 c])):Sem a×Sem b×Sem c:=((o.getD (bQ [a,b,c])).1,(o.getD (bQ [a,b,c])).2.1,(o.getD (bQ [a,b,c])).2.2.1)
def FT(ks outs:List Sh)(o:zz (ks.map Q1)->Option (zz (outs.map Q1))):zZ:=zT ks outs (λx=>(o x).isSome) λx=>(o x).getD (bQ outs)
theorem zw.T1{P:Program}{u:Nat->AV}{σ:Type}{E:bZ}{k:FuncId}{f:Func}{ks outs:List Sh}{keep:Nat->aN}{n:Nat}{e:σ->Nat×St}{t:σ->Tr (σ⊕aw)}{i:zz (ks.map Q1)->Tr (σ⊕aw)}(z:zw E)(gas:Nat:=400)
  (B:(E.P.funcs[k]?,f.name=="runtime.NumGoroutine",f.body.isNone,Q0 (ks.length<=f.ntmps))=(Q1 f,Q4,Q4,Q3):=by kernel_rfl)
  (h:∀x,run E 0 keep f.results.toList gas (bC f) (bl f.ntmps (jB (ks.map Q1) x) [])=(i x).map (lf f e):=by intro x;kernel_rfl)
  (o:∀s,run E 0 keep f.results.toList gas (aj f (e s).1) (e s).2=(t s).map (lf f e):=by intro s;cases s<;>kernel_rfl) (D:E.P=P:=by rfl) (C:E.gl=u:=by rfl):pn P u k (FT ks outs λx=>al outs t n (i x)):=by
 subst D C;exact kY z (bU B) h o (λ_=>rfl) λ_=>rfl
theorem Xa(E:bZ)(n0:Nat)(keep:Nat->aN)(f:Func)(gas:Nat):∀s,run E n0 keep f.results.toList gas (aj f (e0 s).1) (e0 s).2=(t0 s).map (lf f e0):=λs=>nomatch s
def kB{σ:Type}(outs:List Sh)(h:List CP)(t:σ->Tr (σ⊕aw))(n:Nat)(i:Tr (σ⊕aw)):Option (zz (outs.map Q1)×zl h):=(dd t n i).bind λr=>tF h outs r.1 r.2
theorem ka{P:Program}{B:Nat->AV}{σ:Type}{E:bZ}{k:FuncId}{f:Func}{ps:List CP}{ks outs:List Sh}{o:List CP}{keep:Nat->aN}{gas n:Nat}{e:σ->Nat×St}{t:σ->Tr (σ⊕aw)}{i:zl ps->zz (ks.map Q1)->Tr (σ⊕aw)}{c:zl ps->zz (ks.map Q1)->Bool}{g:zl ps->zz (ks.map Q1)->zz (outs.map Q1)×zl o}
  (C:zw E) (F:zO E.P k f (Io ks+1)) (u:∀y x,run E (ba ps+1) keep f.results.toList gas (bC f) (bl f.ntmps (.ptr 0 0::jB (ks.map Q1) x) (ay ps y))=(i y x).map (lf f e))
  (z:∀s,run E (ba ps+1) keep f.results.toList gas (aj f (e s).1) (e s).2=(t s).map (lf f e))
  (D:∀y x,c y x=(kB outs o t n (i y x)).isSome) (G:∀y x,g y x=(kB outs o t n (i y x)).getD (bQ outs,fK o)) (I:E.P=P:=by rfl) (H:E.gl=B:=by rfl):pn P B k (sE ps ks outs o c g):=by
 subst I H;have h:∀y x,itB E keep f gas (n+1) ps ks outs o y x=kB outs o t n (i y x):=by
  intro y x;unfold itB kB;rw[ov z (u y x)]
 exact TX (n:=n+1) C F (λy x=>by rw[h,D]) (λy x=>by rw[h,G])
open Tr (chk br re)
theorem Pv(hp:Nat->AO)(e:Sh)(l:List (Sem e)):xj hp e (.sl e l)=Q1 l:=by
 simp[xj]
theorem kk(hp:Nat->AO):∀(s:Sh)(x:Sem s)(r:List AV),cV hp s (zu s x++r)=Q1 (x,r)
 |.unit,_,_=>rfl
 |.bool,_,_=>rfl
 |.int k,n,r=>by simp[zu,cV]
 |.str,_,_=>rfl
 | .sl e,l,r=>by
  show(match xj hp e (.sl e l)with|some l=>Q1 (l,r)|none=>Q2)=_;rw[Pv]
 | .pr a b,x,r=>by
  simp only[zu,cV,uI,kk hp a,kk hp b]
 | .expr,e,r=>by
  show vy hp _=_;simp only[zu,List.cons_append,pK,vy,Pv];rw[show zf.mk e.op (e.v.1,e.v.2.1,e.v.2.2) e.s e.l=e from zf.eta e]
theorem jD{hp:Nat->AO}:∀(ps:List CP)(n:Nat)(y:zl ps),(∀(j:Nat) o,(gw ps y)[j]?=Q1 o->hp (n+j)=o)->cE hp n ps (eM n ps y)=Q1 y
 |[],_,_,_=>rfl
 | .d s::r,n,y,h=>by
  simp only[eM,cE,kk];rw[jD r n y.2 h]
 | .nil::r,n,y,h=>by
  simp only[eM,cE];exact jD r n y h
 | .vec e::r,n,y,h=>by
  have u:=h 0 (.vec e y.1) rfl;simp only[Aa]at u;simp only[eM,cE,if_true,u,dite_true]
  rw[jD r (n+1) y.2 (λj o z=>by
   have:=h (j+1) o (by simpa[gw]using z);rw[<-this];congr 1;omega)]
theorem dg{ps:List CP}{outs:List Sh}{r:AV}{a:zz (outs.map Q1)}(y:zl ps)(h:aI [] outs r=Q1 a):tF ps outs r (ay ps y)=Q1 (a,y):=by
 unfold tF ay;simp only[bP,if_true,h]
 rw[jD ps 1 y (λj o u=>by
  unfold kj;rw[o9,Cj,aS,u];rfl)]
section
variable {σ:Type} {t:σ->Tr (σ⊕aw)}
theorem dz{β:Type}(N:Nat)(st:β->Nat->σ)(I:β->Nat->Prop)(Φ:aw->Prop)(M:Nat)
  (o:∀b i,i<N->I b i->(∃z,I z (i+1)/\(t (st b i)).val=Q1 (.inl (st z (i+1))))\/∃r,(t (st b i)).val=Q1 (.inr r)/\Φ r)
  (u:∀b n,I b N->M<=n->∃r,dh t n (st b N)=Q1 r/\Φ r):
  ∀(m i:Nat)(b:β)(n:Nat),N-i=m->i<=N->I b i->M+m<=n->∃r,dh t n (st b i)=Q1 r/\Φ r
 | 0,i,b,n,H,G,D,J=>by
  obtain rfl:i=N:=by omega
  exact u b n D ow
 | m+1,i,b,n,H,G,D,J=>by
  obtain⟨n,rfl⟩:∃k,n=k+1:=⟨n-1,ow⟩;rcases o b i ow D with⟨z,F,h⟩|⟨r,B,C⟩
  ·obtain⟨r,B,C⟩:=dz N st I Φ M o u m (i+1) z n ow ow F ow;exact⟨r,by rw[dh,h];exact B,C⟩
  ·exact⟨r,by rw[dh,B],C⟩
theorem cP{n:Nat}{s:σ}:dh t (n+1) s=match(t s).val with
  |some (.inl h)=>dh t n h
  |some (.inr r)=>Q1 r
  |none=>Q2:=rfl
end
theorem jI.cells{C:ff}{w:World}{U:Nat->Prop}{ρ:Nat->Option Value}{hp:Nat->AO}{k:Nat}{cs cs':List AV}(z:jI C w U ρ hp)(F:hp k=.box cs)
  (O:∀vals,dA w U ρ cs vals->dA w U ρ cs' vals):jI C w U ρ (λj=>if j=k then .box cs' else hp j):=by
 have u:∀id b,ar ρ id (ite (id=k) (.box cs') (hp id)) b->ar ρ id (hp id) b:=by
  intro id b ho;by_cases h:id=k
  ·subst h;rw[if_pos rfl]at ho;rw[F];obtain⟨_,v,S,M⟩:=ho;exact⟨rfl,v,S,M⟩
  ·rw[if_neg h]at ho;exact ho
 refine⟨λid=>?_,λid1 B b o1 o2=>z.inj id1 B b (u _ _ o1) (u _ _ o2),λid b o=>z.blk id b (u _ _ o)⟩;by_cases h:id=k
 ·subst h;have D:=z.ob id;rw[F]at D;obtain⟨b,T,vals,G,H,I,J,L⟩:=D;simp only[if_true];exact⟨b,T,vals,G,H,I,O _ J,L⟩
 ·simp only[if_neg h];exact z.ob id
def cr(ps h:List CP)(y:zl ps)(z:zl h):List AO:=.box (eM 2 ps y)::.box (eM (2+ba ps) h z)::(gw ps y++gw h z)
theorem pU(ps h:List CP)(y:zl ps)(z:zl h):(cr ps h y z).length=ba ps+ba h+2:=by
 simp[cr,bP]
theorem jI.box2{C:ff}{w:World}{U:Nat->Prop}{ρ:Nat->Option Value}{cs D:List AV}{os:List AO}{ps u:List CP}{y:zl ps}{z:zl u}(G:jI C w U ρ (λj=>((Qa cs::Qa D::os).getD j .dead)))(hl:Io os=ba ps+ba u)
  (H:cE (kj (.box cs::.box D::os)) 2 ps cs=Q1 y) (F:cE (kj (.box cs::.box D::os)) (2+ba ps) u D=Q1 z):jI C w U ρ (λj=>(cr ps u y z).getD j .dead):=by
 have I:=G.cells (k:=0) (cs:=cs) (cs':=eM 2 ps y) rfl (λB h=>(fJ ps 2 cs y B H h).1);have J:=I.cells (k:=1) (cs:=D) (cs':=eM (2+ba ps) u z) rfl (λB h=>(fJ u _ D z B F h).1);obtain⟨b0,Z,X,_,_,_,T,_⟩:=G.ob 0;obtain⟨b1,T1,Y,_,_,_,W,_⟩:=G.ob 1;have O:=(fJ ps 2 cs y X.toList H T).2;have S:=(fJ u _ D z Y.toList F W).2;have e:(λj=>(cr ps u y z).getD j .dead)=λj=>if j=1 then .box (eM (2+ba ps) u z)else if j=0 then .box (eM 2 ps y)else(Qa cs::Qa D::os).getD j .dead:=by
  funext j
  match j with
  |0=>rfl
  |1=>rfl
  | j+2=>
   rw[if_neg ow,if_neg ow];simp only[cr,Cj];by_cases L:j<ba ps
   ·have o:j<(gw ps y).length:=by rw[bP];exact L
    have:=O j _ (zU o);simp only[kj,o9 2 j,Cj]at this;rw[this,aS,mR o,zU o];rfl
   ·by_cases M:j<ba ps+ba u
    ·have o:j-ba ps<(gw u z).length:=by rw[bP];omega
     have:=S (j-ba ps) _ (zU o);rw[show 2+ba ps+(j-ba ps)=j+2 by omega]at this;simp only[kj,Cj]at this;rw[this,aS,pq (by rw[bP];omega),bP,zU o];rfl
    ·rw[aS,aS,eC (by simp[bP];omega),eC ow]
 rw[e];exact J
def Bb(ps o:List CP)(outs:List Sh)(r:AV)(h:List AO):Option (zz (outs.map Q1)×zl ps×zl o):=match h with
 | .box cs::.box ds::os=>if Io os=ba ps+ba o then match aI [] outs r,cE (kj (.box cs::.box ds::os)) 2 ps cs,cE (kj (.box cs::.box ds::os)) (2+ba ps) o ds with
   |some a,Q1 y,Q1 z=>Q1 (a,y,z)
   |_,_,_=>Q2
  else Q2
 |_=>Q2
def zc7(ps B:List CP)(ks outs:List Sh)(o u:List CP)(c:zl ps->zl B->zz (ks.map Q1)->Bool)(g:zl ps->zl B->zz (ks.map Q1)->zz (outs.map Q1)×zl o×zl u):iU (Q2::Q2::ks.map Q1):=λx h=>match x.1,x.2.1,h with
 | .ptr 0 0,.ptr 1 0,.box cs::.box ds::os=>if Io os=ba ps+ba B then match cE (kj (.box cs::.box ds::os)) 2 ps cs,cE (kj (.box cs::.box ds::os)) (2+ba ps) B ds with
   |some y,Q1 z=>.chk (c y z x.2.2) (.ok (wA outs (g y z x.2.2).1,cr o u (g y z x.2.2).2.1 (g y z x.2.2).2.2))
   |_,_=>.err
  else .err
 |_,_,_=>.err
def Um(ps qs:List CP)(ks outs:List Sh)(h o:List CP)(c:zl ps->zl qs->zz (ks.map Q1)->Bool)(g:zl ps->zl qs->zz (ks.map Q1)->zz (outs.map Q1)×zl h×zl o):zZ:=bp (Q2::Q2::ks.map Q1) (zc7 ps qs ks outs h o c g)
theorem TW{P:Program}{gl:Nat->AV}{E:bZ}{k:FuncId}{f:Func}{ps I:List CP}{ks outs:List Sh}{H J:List CP}{c:zl ps->zl I->zz (ks.map some)->Bool}{g:zl ps->zl I->zz (ks.map some)->zz (outs.map some)×zl H×zl J}(hf:zO E.P k f (Io ks+2))
  (h:∀y z x,c y z x=Q3->∀C:ff,(∀id,ba ps+ba I+2<=id->C.ρ0 id=Q2)->Reach E C k (bC f) (bl f.ntmps (.ptr 0 0::.ptr 1 0::jB (ks.map Q1) x) (cr ps I y z)) (λr h=>Bb H J outs r h=Q1 (g y z x))) (qp:E.P=P:=by rfl) (qg:E.gl=gl:=by rfl):
  pn P gl k (Um ps I ks outs H J c g):=by
 subst qp qg;refine dX (by simpa using hf) λx h0 h9 u C hC=>?_
 obtain⟨x0,x1,x⟩:=x;unfold zc7 at u;simp only at u;split at u
 ·rename_i cs ds os;split at u
  ·rename_i G;split at u
   ·rename_i y z hy hz;simp only[Tr.val]at u;split at u
    ·rename_i hc;simp only[bH]at u;subst u;have hR:=h y z x hc C (λid o=>hC id (by simpa[G]using o));intro b O a w U ρ h1 h2 B hW;have hH:jI C w U ρ (λj=>((Qa cs::Qa ds::os).getD j .dead)):=B.hp
     have L:Cn C (bl f.ntmps (.ptr 0 0::.ptr 1 0::jB (ks.map Q1) x) (cr ps I y z)) a w U ρ:=
      ⟨B.tm,hH.box2 G hy hz,λid o=>B.new id (by have o:(cr ps I y z).length<=id:=o;rw[pU]at o;simpa[bl,G]using o),B.df,B.r0⟩
     obtain⟨e,w',fr,⟨v,r,h',U',ρ',he,D,h3,S,M,Z,T⟩,X,Y,hl⟩:=hR b O a w U ρ h1 h2 L hW;unfold Bb at D;split at D
     ·rename_i h6 h7 h8;split at D
      ·rename_i F;split at D
       ·rename_i a' y' z' W h4 h5;simp only[bH]at D;refine⟨e,w',fr,⟨v,_,_,U',ρ',he,by rw[<-D],HL W h3,S.box2 F h4 h5,λid o=>M id (by rw[pU]at o;simpa[F]using o),Z,T⟩,X,Y,hl⟩
       ·cases D
      ·cases D
     ·cases D
    ·simp at u
   ·simp at u
  ·simp at u
 ·simp at u
def Qx{σ:Type}(outs:List Sh)(h o:List CP)(t:σ->Tr (σ⊕aw))(n:Nat)(i:Tr (σ⊕aw)):Option (zz (outs.map Q1)×zl h×zl o):=(dd t n i).bind λr=>Bb h o outs r.1 r.2
theorem zgq{P:Program}{I:Nat->AV}{σ:Type}{E:bZ}{k:FuncId}{f:Func}{ps qs:List CP}{ks outs:List Sh}{o B:List CP}{keep:Nat->aN}{gas n:Nat}{e:σ->Nat×St}{t:σ->Tr (σ⊕aw)}{i:zl ps->zl qs->zz (ks.map Q1)->Tr (σ⊕aw)}{c:zl ps->zl qs->zz (ks.map Q1)->Bool}{g:zl ps->zl qs->zz (ks.map Q1)->zz (outs.map Q1)×zl o×zl B}
  (S:zw E) (J:zO E.P k f (Io ks+2)) (G:∀y z x,run E (ba ps+ba qs+2) keep f.results.toList gas (bC f) (bl f.ntmps (.ptr 0 0::.ptr 1 0::jB (ks.map Q1) x) (cr ps qs y z))=(i y z x).map (lf f e))
  (H:∀s,run E (ba ps+ba qs+2) keep f.results.toList gas (aj f (e s).1) (e s).2=(t s).map (lf f e))
  (T:∀y z x,c y z x=(Qx outs o B t n (i y z x)).isSome) (W:∀y z x,g y z x=(Qx outs o B t n (i y z x)).getD (bQ outs,fK o,fK B)) (Y:E.P=P:=by rfl) (X:E.gl=I:=by rfl):pn P I k (Um ps qs ks outs o B c g):=by
 subst Y X;refine TW J λy z x D C O=>?_
 rw[T,Option.isSome_iff_exists]at D;obtain⟨u,F⟩:=D;rw[W,F];unfold Qx at F;rw[gq]at F;obtain⟨r,L,M⟩:=F;exact ql (Q:=λr h=>Bb o B outs r h=Q1 u) S J O (n+1) _ _ r (by rw[ov H (G y z x)];exact L) M
section
variable {σ:Type} {t:σ->Tr (σ⊕aw)}
def zV(t:σ->Tr (σ⊕aw))(k:Nat)(s:σ)(r:aw):Prop:=∀n,k<=n->dh t n s=Q1 r
def zL(t:σ->Tr (σ⊕aw))(m:Nat)(s s':σ):Prop:=∀k r,zV t k s' r->zV t (k+m) s r
theorem zV.mono{k o:Nat}{s:σ}{r:aw}(h:zV t k s r)(u:k<=o):zV t o s r:=λn z=>h n ow
theorem zV.of{s:σ}{r:aw}(h:(t s).val=Q1 (.inr r)):zV t 1 s r:=by
 intro n o;obtain⟨n,rfl⟩:∃k,n=k+1:=⟨n-1,ow⟩;rw[dh,h]
theorem zL.of{s s':σ}(h:(t s).val=Q1 (.inl s')):zL t 1 s s':=by
 intro k r o n u;obtain⟨n,rfl⟩:∃k,n=k+1:=⟨n-1,ow⟩;rw[dh,h];exact o n ow
theorem zL.refl(s:σ):zL t 0 s s:=λ_ _ h=>h
theorem zL.trans{a b:Nat}{s s' o:σ}(u:zL t a s s')(z:zL t b s' o):zL t (b+a) s o:=λk r h=>(u _ _ (z k r h)).mono ow
theorem zL.mono{a b:Nat}{s s':σ}(h:zL t a s s')(u:a<=b):zL t b s s':=λk r o=>(h k r o).mono ow
theorem zL.ends{a k:Nat}{s s':σ}{r:aw}(h:zL t a s s')(o:zV t k s' r):zV t (k+a) s r:=h k r o
theorem zL.all(m:Nat)(st:Nat->σ):∀(N:Nat),(∀i,i<N->zL t m (st i) (st (i+1)))->zL t (N*m) (st 0) (st N)
 |0,_=>(zL.refl _).mono ow
 |N+1,h=>((zL.all m st N λi o=>h i ow).trans (h N ow)).mono (by rw[nR];omega)
theorem mI{Φ:aw->Prop}(m:Nat)(st:Nat->σ)(P:Nat->Prop):∀(N:Nat),(∀i,i<N->(∀j,j<i->P j)->(P i/\zL t m (st i) (st (i+1)))\/(¬P i/\∃r,zV t m (st i) r/\Φ r))->
  ((∀i,i<N->P i)/\zL t (N*m) (st 0) (st N))\/((¬∀i,i<N->P i)/\∃r,zV t (N*m) (st 0) r/\Φ r)
 |0,_=>.inl ⟨λi o=>absurd o ow,(zL.refl _).mono ow⟩
 | N+1,h=>by
  rcases mI m st P N λi o=>h i ow with⟨u,z⟩|⟨u,r,z,D⟩
  ·rcases h N ow u with⟨B,C⟩|⟨B,r,C,F⟩
   ·refine .inl ⟨λi o=>?_,(z.trans C).mono (by rw[nR];omega)⟩;rcases Nat.lt_succ_iff_lt_or_eq.1 o with o|rfl
    ·exact u i o
    ·exact B
   ·exact .inr ⟨λh=>B (h N ow),r,(z.ends C).mono (by rw[nR];omega),F⟩
  ·exact .inr ⟨λh=>u λi o=>h i ow,r,z.mono (by rw[nR];omega),D⟩
theorem zy{outs:List Sh}{n k:Nat}{i:Tr (σ⊕aw)}{s:σ}{r:aw}{y:zz (outs.map Q1)}(o:i.val=Q1 (.inl s))(h:zV t k s r)(u:k<=n)(z:aI r.2 outs r.1=Q1 y):al outs t n i=Q1 y:=by
 unfold al dd;rw[o];show(dh t n s).bind _=_;rw[h n u];exact z
theorem zM{outs:List Sh}{n:Nat}{i:Tr (σ⊕aw)}{r:aw}{y:zz (outs.map Q1)}(h:i.val=Q1 (.inr r))(o:aI r.2 outs r.1=Q1 y):al outs t n i=Q1 y:=by
 unfold al dd;rw[h];exact o
theorem Xl{outs:List Sh}{ps:List CP}{n:Nat}{i:Tr (σ⊕aw)}{r:aw}{y:zz (outs.map Q1)×zl ps}(h:i.val=Q1 (.inr r))(o:tF ps outs r.1 r.2=Q1 y):kB outs ps t n i=Q1 y:=by
 unfold kB dd;rw[h];exact o
end
noncomputable section
theorem Reach.lenA{E:bZ}{C:ff}{F:FuncId}{o:List Item}{st:St}{Q:AV->List AO->Prop}(j c:Nat)(e:Sh)(l:List (Sem e)){cs:List AV}(G:st.tmps[j]?=Q1 (.agg cs))(H:cs[c]?=Q1 (.sl e l))(h:Io l<=aG->Reach E C F o st Q):Reach E C F o st Q:=by
 intro b z a w U ρ M O B I;refine h ?_ b z a w U ρ M O B I;have u:j<a.tmps.toList.length:=by rw[<-B.tm.len];exact(dn.1 G).1
 have:=B.tm.rv j _ _ G (zU u);generalize a.tmps.toList[j]=v at this;cases this with
 |agg _ vs D _ L=>
 have u:c<Io vs:=by rw[<-D];exact(dn.1 H).1
 have:=L c _ _ H (zU u);generalize vs[c]=v at this;cases this with
 |sl0=>simp
 |sl _ _ _ _ _ _ _ J=>exact J
abbrev zny:Nat->aN:=λj=>if j=3 then{slots:=[0,3,4],prom:=[(3,Q2,ze)]}else{ }
inductive Rs where
 |h3 (l0:List (Sem ze)) (i4:Int) (lh_0:List (Sem ze))
abbrev zqt:Rs->Nat×St
 |.h3 u o h=>(3,⟨tm 24 [(0,sl ze u),(3,AV.vec 0),(4,ai o)],[AO.vec ze h]⟩)
def zr0(h:Sem ze.sl):Tr (Rs⊕aw):=Tr.to (Rs.h3 h 0 [])
def zbH:Rs->Tr (Rs⊕aw)
 | .h3 u o h=>
  let z:=u.getD o.toNat (zi ze)
  let B:=[FM z]
  br (cond (Q0 (o<(↑u.length:Int))) (Q0 (o<14)) Q4)
  (chk (zJ o (Io u)) (chk (M3 z) (chk (Q0 (Io h+Io B<=1073741824)) (Tr.to (Rs.h3 u (Γ Δ (o+1)) (h++B))))))
  (re (AV.vec 0) [AO.vec ze h])
def zol(h:Sem ze.sl):=al [ze.sl] zbH 100000000 (zr0 h)
def zjr:=FT [ze.sl] [ze.sl] λx=>zol x.1
theorem TL:FK 43 zjr:=xx.T1 (f:=Tryz.f43) (keep:=zny) (e:=zqt)
abbrev znQ:Nat->aN:=λj=>if j=3 then{slots:=[0,3,4],prom:=[(3,Q2,zj)]}else{ }
inductive Nj where
 |h3 (l0:List (Sem zj)) (i4:Int) (lh_0:List (Sem zj))
abbrev zqH:Nj->Nat×St
 |.h3 u o h=>(3,⟨tm 33 [(0,sl zj u),(3,AV.vec 0),(4,ai o)],[AO.vec zj h]⟩)
def zr6(h:Sem zj.sl):Tr (Nj⊕aw):=Tr.to (Nj.h3 h 0 [])
def zbK:Nj->Tr (Nj⊕aw)
 | .h3 u o h=>
  let z:=u.getD o.toNat (zi zj)
  let B:=(↑(Io z.1):Int)
  let C:=[(Qg (toNat 20-toNat 0) (Qh (toNat 0) z.1),z.2)]
  let D:=Γ Δ (o+1)
  let F:=[z]
  br (cond (Q0 (o<(↑u.length:Int))) (Q0 (o<9)) Q4)
  (chk (zJ o (Io u)) (br (Q0 (B>20)) (chk (Q0 (0<=0)&&Q0 (0<=20)&&Q0 (20<=B)) (chk (Q0 (Io h+Io C<=1073741824)) (Tr.to (Nj.h3 u D (h++C))))) (chk (Q0 (Io h+Io F<=1073741824)) (Tr.to (Nj.h3 u D (h++F))))))
  (re (AV.vec 0) [AO.vec zj h])
def zok(h:Sem zj.sl):=al [zj.sl] zbK 100000000 (zr6 h)
def zj1:=FT [zj.sl] [zj.sl] λx=>zok x.1
theorem TR:FK 42 zj1:=xx.T1 (f:=Tryz.f42) (keep:=znQ) (e:=zqH)
def mh(l:Sem ze.sl):Sem ze.sl:=(Qg 14 l).map FM
def jQ(l:Sem zj.sl):Sem zj.sl:=(Qg 9 l).map λc:Sem zj=>((jy c.1,c.2):Sem zj)
theorem wT(k:Nat){α:Type}(l:List α):l.take (min k (Io l))=l.take k:=by
 rcases Nat.le_total k (Io l)with h|h
 ·rw[F8 h]
 ·rw[F6 h,fI,Ch h]
theorem za0{i k n:Nat}{K:Int}(z:K=(k:Int))(h:i<min k n):(cond (Q0 ((i:Int)<(n:Int))) (Q0 ((i:Int)<K)) Q4)=Q3:=by
 have o:(i:Int)<n:=by omega
 have u:(i:Int)<K:=by omega
 rw[zx o,zx u];rfl
theorem P7{k:Nat}{K:Int}(o:K=(k:Int))(n:Nat):(cond (Q0 (((min k n:Nat):Int)<(n:Int))) (Q0 (((min k n:Nat):Int)<K)) Q4)=Q4:=by
 rcases Nat.le_total k n with h|h
 ·rw[F8 h,o];simp
 ·rw[F6 h];simp
theorem Ka{α:Type}{l:List α}{i:Nat}(h:i<Io l)(d:α):l.take (i+1)=l.take i++[l.getD i d]:=by
 rw[List.take_add_one,zU h,aS,zU h];rfl
def K2:=zc9.addL [(43,zjr),(42,zj1)]
theorem xy:zw K2:=xx.addL<|fc TL<|fc TR iz
end
theorem nQ{P:Program}{o:Nat->AV}{k:FuncId}{ks outs:List Sh}{c:zz (ks.map Q1)->Bool}{g:zz (ks.map Q1)->zz (outs.map Q1)}(h:pn P o k (zT ks outs c g))(u:∀x,c x=Q3):pn P o k (aH ks outs g):=
 Pp (by rwa [show c=λ_=>Q3 from funext u]at h)
theorem Fc(v:V):M3 v=Q3:=by
 unfold M3;cases h:Q0 ((↑(Io v.2.2):Int)>60)
 ·rfl
 ·simp only[aQ]at h;simp only[af,aE,aQ];omega
theorem OX(s:zD):QZ s=Q3:=by
 unfold QZ;cases h:Q0 ((↑(Io s):Int)>20)
 ·rfl
 ·simp only[aQ]at h;simp only[af,aE,aQ];omega
theorem SK(l:List (Sem ze)):zol l=Q1 (mh l,()):=by
 have g:=zL.all (t:=zbH) 1 (λi=>.h3 l (i:Int) ((Qg i l).map FM)) (min 14 (Io l)) λi o=>zL.of (by
  have h:i<Io l:=by omega
  have u:Q0 ((List.map FM (Qg i l)).length+[FM (l.getD i (zi ze))].length<=1073741824)=Q3:=by simp;omega
  simp only[zbH,Tr.val,za0 (k:=14) (K:=14) rfl o,zt h,if_true,aD,Fc,u];rw[zr i um,Ka h (zi ze),gD];rfl)
 rw[wT]at g;refine zy rfl (g.ends (k:=1) (r:=(.vec 0,[.vec ze (mh l)])) (zV.of ?_)) ow rfl;simp only[zbH,Tr.val,P7 (k:=14) (K:=14) rfl,zA,if_false];rfl
theorem SI(l:List (Sem zj)):zok l=Q1 (jQ l,()):=by
 have g:=zL.all (t:=zbK) 1 (λi=>.h3 l (i:Int) ((Qg i l).map λc:Sem zj=>((jy c.1,c.2):Sem zj))) (min 9 (Io l)) λi B=>zL.of (by
  have z:i<Io l:=by omega
  have D:(Qg (i+1) l).map (λc:Sem zj=>((jy c.1,c.2):Sem zj))=(Qg i l).map (λc:Sem zj=>((jy c.1,c.2):Sem zj))++[(jy (List.getD l i (zi zj)).1,(List.getD l i (zi zj)).2)]:=by rw[Ka z (zi zj),gD];rfl
  have u:((Qg i l).map (λc:Sem zj=>((jy c.1,c.2):Sem zj))).length<=9:=by rw[cz,o7];omega
  rw[D];generalize(Qg i l).map (λc:Sem zj=>((jy c.1,c.2):Sem zj))=acc at u⊢;have C:Q0 (Io acc+1<=1073741824)=Q3:=zx ow;simp only[zbK,Tr.val,za0 (k:=9) (K:=9) rfl B,zt z,if_true,aD,dU,iq,ek,C];rw[zr i um];unfold jy;by_cases h:(Io (List.getD l i (zi zj)).1:Int)>20
  ·have o:Q0 ((20:Int)<=(Io (List.getD l i (zi zj)).1:Int))=Q3:=zx ow;simp only[zx h,o,if_true];rfl
  ·simp only[aq h,zA,if_false])
 rw[wT]at g;refine zy rfl (g.ends (k:=1) (r:=(.vec 0,[.vec zj (jQ l)])) (zV.of ?_)) ow rfl;simp only[zbK,Tr.val,P7 (k:=9) (K:=9) rfl,zA,if_false];rfl
def zjs:zZ:=aH [ze] [ze] λx=>(FM x.1,())
theorem zeX:FK 85 zjs:=nQ zcY λx=>Fc x.1
def zjj:zZ:=aH [Q6] [Q6] λx=>(jy x.1,())
theorem zeQ:FK 135 zjj:=nQ zcX λx=>OX x.1
def F6t:zZ:=aH [ze.sl] [ze.sl] λx=>(mh x.1,())
theorem zlv:FK 43 F6t:=g6 TL λx=>SK x.1
def zjn:zZ:=aH [zj.sl] [zj.sl] λx=>(jQ x.1,())
theorem zeU:FK 42 zjn:=g6 TR λx=>SI x.1
abbrev AY:Nat->aN:=λ_=>{slots:=[0,1,7,8]}
def ox{K:List Item}{e:Sh}(l:List (Sem e))(p:Sem e->Bool)(st:Int->St)(h:List AO)(i:Int):Tr zG:=.br (Q0 (i<(Io l:Int))) (.chk (zJ i (Io l)) (.br (p (l.getD i.toNat (zi e))) (.ok (.ret (.int .i64 i) h)) (.ok (.head 2 K (st (Γ Δ (i+1))))))) (.ok (.ret (.int .i64 (-1)) h))
theorem kV{E:bZ}{C:ff}{k:FuncId}{f:Func}{n n0:Nat}{keep:Nat->aN}{u:Nat}{K:List Item}{e:Sh}(l:List (Sem e))(p:Sem e->Bool)(st:Int->St){D:List AO}
  (B:zw E) (G:zO E.P k f n) (F:∀id,n0<=id->C.ρ0 id=Q2)
  (z:∀i,run E n0 keep f.results.toList u K (st i)=ox (K:=K) l p st D i) (H:Io l<=aG):∀(m i:Nat),Io l-i=m->i<=Io l->
  Reach E C k K (st i) (λr h=>(r,h)=(.int .i64 (zW p (l.drop i) i),D)):=by
 intro m
 induction m with
 | zero=>
  intro i B.mix' hi;obtain rfl:i=Io l:=by omega
  refine zK B G F (z _) ?_;simp only[ox,Tr.val,zB,jK];rfl
 | succ m I=>
  intro i B.mix' hi;have o:i<Io l:=by omega
  refine zK B G F (z _) ?_;rw[fj o];simp only[ox,Tr.val,zF o,zt o,cM l _ o,zr i ow,if_true,zW];split
  ·rfl
  ·exact I (i+1) ow ow
abbrev BU(t:Int)(l:List (Sem zg))(i:Int):St:={tmps:=[.sl zg l,.clo (.func 297) [] [.ptr 0 0],.any,.any,.any,.any,.any,.int .i64 (Io l),.int .i64 i,.any,.any,.any,.any,.any,.any,.any,.any,.any,.any],heap:=[.box [.int .i64 t]]}
theorem Vt(t:Int)(l:List (Sem zg)):run K2 1 AY Tryz.f327.results.toList 300 (bC Tryz.f327) (bl Tryz.f327.ntmps [.sl zg l,.clo (.func 297) [] [.ptr 0 0]] [.box [.int .i64 t]])=.ok (.head 2 (aj Tryz.f327 2) (BU t l 0)):=kw
theorem Xb(t:Int)(l:List (Sem zg))(i:Int):run K2 1 AY Tryz.f327.results.toList 300 (aj Tryz.f327 2) (BU t l i)=ox (K:=aj Tryz.f327 2) (e:=zg) l (λx=>bif x !=t then x !=0 else Q4) (BU t l) [.box [.int .i64 t]] i:=kw
theorem WR:zO K2.P 327 Tryz.f327 2:=bU kw
def zlX:iU [Q1 (.sl zg),Q2]:=λx h=>match x,h with
 |(l,.clo (.func 297) [] [.ptr 0 0],_),[.box [.int .i64 t]]=>.ok (.int .i64 (zW (λx=>bif x !=t then x !=0 else Q4) l 0),[.box [.int .i64 t]])
 |_,_=>.err
def zi5:zZ:=bp [Q1 (.sl zg),Q2] zlX
theorem zeC:FK 327 zi5:=by
 refine dX WR λx D B h C o=>?_
 unfold zlX at h;split at h
 ·rename_i l u t;simp only[Tr.val_ok,bH]at h;subst h;refine Reach.len 0 zg l rfl λz=>?_
  refine zK (n0:=1) xy WR o (Vt t l) ?_;exact kV l (λx=>bif x !=t then x !=0 else Q4) (BU t l) xy WR o (Xb t l) z _ 0 rfl (aO _)
 ·simp at h
noncomputable def vd:=K2.addL [(85,zjs),(135,zjj),(43,F6t),(42,zjn),(327,zi5)]
theorem mW:zw vd:=xy.addL<|fc zeX<|fc zeQ<|fc zlv<|fc zeU<|fc zeC iz
noncomputable def F78:zZ:=bp [Q1 (.sl zg),Q2] (fA vd Tryz.f296 [Q1 (.sl zg),Q2])
theorem zlB:FK 296 F78:=ch _ mW (bU kw)
def ei(h:Sem Q6):Sem Q7:=qU h
theorem zoB:zO vd.P 130 Tryz.f130 1:=bU kw
theorem zrf(h:Sem Q6):rn vd 0 (λ_=>{ }) Tryz.f130 [zC Q6 h] []=Tr.ok (zG.ret (AV.bool (qU h)) []):=kw
def F25:zZ:=aH [Q6] [Q7] λx=>(ei x.1,())
theorem zkT:FK 130 F25:=by
 refine ag zoB λx C h=>?_
 refine aZ mW zoB (λid _=>h id) (zrf x.1) ?_;simp only[Tr.val,ei];repeat' split
 all_goals rfl
def zR(h:Sem zo)(o:Sem Q6):Sem zg:=zW (λc=>c.1==o) h.2.1 0
theorem zox:zO vd.P 154 Tryz.f154 2:=bU kw
theorem zrb(h:Sem zo)(o:Sem Q6):rn vd 0 (λ_=>{ }) Tryz.f154 [zC zo h,zC Q6 o] []=Tr.ok (zG.ret (ai (zW (λc=>c.1==o) h.2.1 0)) []):=kw
def F17:zZ:=aH [zo,Q6] [zg] λx=>(zR x.1 x.2.1,())
theorem zkO:FK 154 F17:=by
 refine ag zox λx C h=>?_
 refine aZ mW zox (λid _=>h id) (zrb x.1 x.2.1) ?_;simp only[Tr.val,zR];repeat' split
 all_goals rfl
def ap(h:Sem zj.sl)(o:Sem Q6):Sem zg:=zW (λc=>c.1==o) h 0
theorem zoW:zO vd.P 256 Tryz.f256 2:=bU kw
theorem zry(h:Sem zj.sl)(o:Sem Q6):rn vd 0 (λ_=>{ }) Tryz.f256 [zC zj.sl h,zC Q6 o] []=Tr.ok (zG.ret (ai (zW (λc=>c.1==o) h 0)) []):=kw
def F48:zZ:=aH [zj.sl,Q6] [zg] λx=>(ap x.1 x.2.1,())
theorem zlc:FK 256 F48:=by
 refine ag zoW λx C h=>?_
 refine aZ mW zoW (λid _=>h id) (zry x.1 x.2.1) ?_;simp only[Tr.val,ap];repeat' split
 all_goals rfl
noncomputable def Gh:=vd.addL [(296,F78),(130,F25),(154,F17),(256,F48)]
theorem xz:zw Gh:=mW.addL<|fc zlB<|fc zkT<|fc zkO<|fc zlc iz
def mA(h:Sem zg.sl)(o:Sem zg):Sem Q7:=!Q0 (zW (λx=>bif x !=o then x !=0 else Q4) h 0>=0)
theorem zo6:zO Gh.P 257 Tryz.f257 2:=bU kw
theorem zrK(h:Sem zg.sl)(o:Sem zg):rn Gh 0 (λ_=>{ }) Tryz.f257 [zC zg.sl h,zC zg o] []=Tr.ok (zG.ret (AV.bool !Q0 (zW (λx=>bif x !=o then x !=0 else Q4) h 0>=0)) []):=kw
def F66:zZ:=aH [zg.sl,zg] [Q7] λx=>(mA x.1 x.2.1,())
theorem zlt:FK 257 F66:=by
 refine ag zo6 λx C h=>?_
 refine aZ xz zo6 (λid _=>h id) (zrK x.1 x.2.1) ?_;simp only[Tr.val,mA];repeat' split
 all_goals rfl
def zQ(h:Sem Q6):Sem Q7:=bif ei h then !jw h else Q4
theorem zow:zO Gh.P 219 Tryz.f219 1:=bU kw
theorem zra(h:Sem Q6):rn Gh 0 (λ_=>{ }) Tryz.f219 [zC Q6 h] []=Tr.ok (zG.ret (AV.bool (cond (ei h) (!jw h) Q4)) []):=kw
def F16:zZ:=aH [Q6] [Q7] λx=>(zQ x.1,())
theorem zkN:FK 219 F16:=by
 refine ag zow λx C h=>?_
 refine aZ xz zow (λid _=>h id) (zra x.1) ?_;simp only[Tr.val,zQ];repeat' split
 all_goals rfl
noncomputable def U3:=Gh.addL [(257,F66),(219,F16)]
theorem Gi:zw U3:=xz.addL<|fc zlt<|fc zkN iz
theorem eY{P:Program}{B:Nat->AV}{k:FuncId}{ks outs:List Sh}{c:zz (ks.map Q1)->Bool}{g:zz (ks.map Q1)->zz (outs.map Q1)}(D:∃u,P.funcs[k]?=Q1 u/\(u.name=="runtime.NumGoroutine")=Q4/\u.body.isNone=Q4)(C:∀x,c x=Q4):pn P B k (zT ks outs c g):=by
 refine⟨D,?_⟩;intro w U ρ hp n args z f G h;exfalso;unfold zT bp at h;split at h
 ·simp only at h;split at h
  ·split at h
   ·simp only[Tr.val_bind,gq]at h;obtain⟨F,o,H⟩:=h;unfold eQ at o;split at o
    ·simp only[Tr.val,C]at o;simp at o
    ·simp at o
   ·simp at h
  ·simp at h
 ·simp at h
theorem mL{Φ:zG->Prop}{c:Bool}{t f:Tr zG}(h:c=Q3->gC Φ t.val)(o:c=Q4->gC Φ f.val):gC Φ (br c t f).val:=by
 cases c
 ·simpa[Tr.val]using o rfl
 ·simpa[Tr.val]using h rfl
theorem mM{Φ:zG->Prop}{c:Bool}{t:Tr zG}(o:c=Q3)(h:gC Φ t.val):gC Φ (chk c t).val:=by
 subst o;simpa[Tr.val]using h
theorem zP{Φ:zG->Prop}{t:Tr zG}(h:gC Φ t.val):gC Φ (chk Q3 t).val:=h
theorem nj{c:Bool}(h:c=Q4):¬c=Q3:=by rw[h];simp
theorem rr{c g:Bool}(h:(ite (c=Q3) g Q4)=Q3):c=Q3/\g=Q3:=by
 split at h
 ·exact⟨‹_›,h⟩
 ·cases h
theorem vK{Φ:zG->Prop}{c:Bool}{t f:Tr zG}{α:Sort _}{a b y:α}{p q:Bool}(u:(ite (c=Q3) a b)=y)(o:(ite (c=Q3) p q)=Q3)(z:c=Q3->a=y->p=Q3->gC Φ t.val)(B:c=Q4->b=y->q=Q3->gC Φ f.val):gC Φ (Tr.br c t f).val:=
 mL (λh=>z h (by rwa [if_pos h]at u) (by rwa [if_pos h]at o)) (λh=>B h (by rwa [if_neg (nj h)]at u) (by rwa [if_neg (nj h)]at o))
theorem du{Φ:zG->Prop}{c:Bool}{t f:Tr zG}{α:Sort _}{a b y:α}(o:(ite (c=Q3) a b)=y)(u:c=Q3->a=y->gC Φ t.val)(z:c=Q4->b=y->gC Φ f.val):gC Φ (Tr.br c t f).val:=
 mL (λh=>u h (by rwa [if_pos h]at o)) (λh=>z h (by rwa [if_neg (nj h)]at o))
theorem iH{Φ:zG->Prop}{c g:Bool}{t:Tr zG}(o:(ite (c=Q3) g Q4)=Q3)(h:g=Q3->gC Φ t.val):gC Φ (Tr.chk c t).val:=
 mM (rr o).1 (h (rr o).2)
theorem Tr.val_brT{α:Type}(t f:Tr α):(br Q3 t f).val=t.val:=rfl
theorem Tr.val_brF{α:Type}(t f:Tr α):(br Q4 t f).val=f.val:=rfl
theorem Tr.val_chkT{α:Type}(t:Tr α):(chk Q3 t).val=t.val:=rfl
instance:Inhabited zf:=⟨.mk [] (0,0,[]) [] []⟩
instance (s:Sh):Inhabited (Sem s):=⟨zi s⟩
noncomputable def Si(g:Sem Q5->Sem (Sh.sl zj)->Sem zg×Sem zg)(c:Sem Q5->Sem (Sh.sl zj)->Bool):bZ:=U3.add 206 (zT [Q5,Sh.sl zj] [zg,zg] (λx=>c x.1 x.2.1) λx=>((g x.1 x.2.1).1,(g x.1 x.2.1).2,()))
theorem CX{g:Sem Q5->Sem (Sh.sl zj)->Sem zg×Sem zg}{c:Sem Q5->Sem (Sh.sl zj)->Bool}(h:FK 206 (zT [Q5,Sh.sl zj] [zg,zg] (λx=>c x.1 x.2.1) λx=>((g x.1 x.2.1).1,(g x.1 x.2.1).2,()))):zw (Si g c):=Gi.add h
abbrev zd7:Nat->aN:=λj=>if j=3 then{slots:=[1,2,6,15,16,17],prom:=[(6,Q2,zg)]}else{ }
abbrev EL(I:LC)(H:LX)(o:Int)(u:Int)(z:zD)(B:Int)(C:Int)(D:zD)(F:zD)(G:LX)(h:LI):St:={tmps:=(tm 91 [(1,sl zj I),(2,ptr 0 0),(6,AV.vec 1),(15,sl Q5 H),(16,ai o),(17,ai u)]),heap:=[Qa [str z,ai B,ai C,str D,str F,sl Q5 G],AO.vec zg h]}
theorem DP(g:Sem Q5->Sem (Sh.sl zj)->Sem zg×Sem zg)(c:Sem Q5->Sem (Sh.sl zj)->Bool):zO (Si g c).P 206 Tryz.f206 2:=bU kw
theorem zmO(g:Sem Q5->Sem (Sh.sl zj)->Sem zg×Sem zg)(c:Sem Q5->Sem (Sh.sl zj)->Bool)(h:Sem Q5)(o:Sem zj.sl):rn (Si g c) 0 zd7 Tryz.f206 [zC Q5 h,zC zj.sl o] []=Tr.ok (zG.head 3 (aj Tryz.f206 3) (EL o (zf.l h) (↑(zf.l h).length:Int) 0 (zf.op h) (zf.v h).1 (zf.v h).2.1 (zf.v h).2.2 (zf.s h) (zf.l h) [])):=kw
theorem Qu(g:Sem Q5->Sem (Sh.sl zj)->Sem zg×Sem zg)(c:Sem Q5->Sem (Sh.sl zj)->Bool)(B:LC)(z:LX)(D:Int)(u:Int)(o:zD)(F:Int)(G:Int)(H:zD)(C:zD)(I:LX)(h:LI):rh (Si g c) 0 zd7 Tryz.f206 3 (EL B z D u o F G H C I h)=br (Q0 (u<D)) (chk (zJ u (Io z)) (chk (c (zm (z.getD u.toNat (zi Q5))) B) (br ((g (zm (z.getD u.toNat (zi Q5))) B).2!=0) (Tr.ok (zG.ret (tup [ai 0,AV.int IntKind.i64 (g (zm (z.getD u.toNat (zi Q5))) B).2]) [])) (chk (Q0 (Io h+[(g (zm (z.getD u.toNat (zi Q5))) B).1].length<=1073741824)) (Tr.ok (zG.head 3 (aj Tryz.f206 3) (EL B z D (Γ Δ (u+1)) o F G H C I (h++[(g (zm (z.getD u.toNat (zi Q5))) B).1])))))))) (br (o==kH) (Tr.ok (zG.ret (tup [ai F,ai 0]) [])) (br (o==cX) (br (Q0 (ap B C<0)) (Tr.ok (zG.ret (tup [ai 0,ai 4]) [])) (chk (zJ (ap B C) (Io B)) (Tr.ok (zG.ret (tup [ai (B.getD (toNat (ap B C)) (zi zj)).2.1,ai 0]) [])))) (br (o==mS) (br (!mA h 3) (Tr.ok (zG.ret (tup [ai 0,ai 5]) [])) (Tr.ok (zG.ret (tup [ai 3,ai 0]) []))) (br (o==em) (br (!mA h 3) (Tr.ok (zG.ret (tup [ai 0,ai 5]) []))
 (Tr.ok (zG.ret (tup [ai 3,ai 0]) []))) (br (o==uQ) (br (!mA h 3) (Tr.ok (zG.ret (tup [ai 0,ai 5]) [])) (Tr.ok (zG.ret (tup [ai 3,ai 0]) []))) (br (o==[61]) (chk (zJ 0 (Io h)&&(Q0 (toNat 0<Io h)&&(zJ 1 (Io h)&&(Q0 (toNat 1<Io h)&&bif h.getD (toNat 0) (zi zg)==h.getD (toNat 1) (zi zg)then Q3 else zJ 0 (Io h)&&(Q0 (toNat 0<Io h)&&bif h.getD (toNat 0) (zi zg)==0 then Q3 else zJ 1 (Io h)&&Q0 (toNat 1<Io h)))))) (br (!bif h.getD (toNat 0) (zi zg)==h.getD (toNat 1) (zi zg)then Q3 else bif h.getD (toNat 0) (zi zg)==0 then Q3 else h.getD (toNat 1) (zi zg)==0) (Tr.ok (zG.ret (tup [ai 0,ai 5]) [])) (Tr.ok (zG.ret (tup [ai 3,ai 0]) [])))) (br (o==[60]) (chk (zJ 0 (Io h)&&(Q0 (toNat 0<Io h)&&(zJ 1 (Io h)&&(Q0 (toNat 1<Io h)&&bif h.getD (toNat 0) (zi zg)==h.getD (toNat 1) (zi zg)then Q3 else zJ 0 (Io h)&&(Q0 (toNat 0<Io h)&&bif h.getD (toNat 0) (zi zg)==0 then Q3 else zJ 1 (Io h)&&Q0 (toNat 1<Io h)))))) (br (!bif h.getD (toNat 0) (zi zg)==h.getD (toNat 1) (zi zg)then Q3
 else bif h.getD (toNat 0) (zi zg)==0 then Q3 else h.getD (toNat 1) (zi zg)==0) (Tr.ok (zG.ret (tup [ai 0,ai 5]) [])) (Tr.ok (zG.ret (tup [ai 3,ai 0]) [])))) (br (o==[43]) (br (!mA h 1) (Tr.ok (zG.ret (tup [ai 0,ai 5]) [])) (Tr.ok (zG.ret (tup [ai 1,ai 0]) []))) (br (o==[45]) (br (!mA h 1) (Tr.ok (zG.ret (tup [ai 0,ai 5]) [])) (Tr.ok (zG.ret (tup [ai 1,ai 0]) []))) (Tr.ok (zG.ret (tup [ai 3,ai 0]) []))))))))))):=kw
def aJ(g:Sem Q5->Sem (Sh.sl zj)->Sem zg×Sem zg)(c:Sem Q5->Sem (Sh.sl zj)->Bool)(z:LC)(o:zD)(C:Int)(D:Int)(F:zD)(u:zD)(G:LX):List (Sem Q5)->Int->List (Sem zg)->Sem zg×Sem zg
 |[],_,h=>if(o==kH)=Q3 then(C,0)
else
 if(o==cX)=Q3 then
  if Q0 (ap z u<0)=Q3 then(0,4)
  else((z.getD (toNat (ap z u)) (zi zj)).2.1,0)
 else
  if(o==mS)=Q3 then if(!mA h 3)=Q3 then(0,5)else(3,0)
  else
   if(o==em)=Q3 then if(!mA h 3)=Q3 then(0,5)else(3,0)
   else
    if(o==uQ)=Q3 then if(!mA h 3)=Q3 then(0,5)else(3,0)
    else
     if (o==[61])=true then
      if
        (!bif h.getD (toNat 0) (zi zg)==h.getD (toNat 1) (zi zg)then Q3
          else bif h.getD (toNat 0) (zi zg)==0 then Q3 else h.getD (toNat 1) (zi zg)==0)=
         Q3 then
       (0,5)
      else(3,0)
     else
      if (o==[60])=true then
       if
         (!bif h.getD (toNat 0) (zi zg)==h.getD (toNat 1) (zi zg)then Q3
           else
            bif h.getD (toNat 0) (zi zg)==0 then Q3 else h.getD (toNat 1) (zi zg)==0)=
          Q3 then
        (0,5)
       else(3,0)
      else
       if(o==[43])=Q3 then if(!mA h 1)=Q3 then(0,5)else(1,0)
       else if(o==[45])=Q3 then if(!mA h 1)=Q3 then(0,5)else(1,0)else(3,0)
 |x::r,B,h=>if((g x z).2!=0)=Q3 then(0,(g x z).2)else aJ g c z o C D F u G r (B+1) (h++[(g x z).1])
def gm(g:Sem Q5->Sem (Sh.sl zj)->Sem zg×Sem zg)(c:Sem Q5->Sem (Sh.sl zj)->Bool)(u:LC)(o:zD)(C:Int)(D:Int)(F:zD)(z:zD)(G:LX):List (Sem Q5)->Int->List (Sem zg)->Bool
 |[],_,h=>if(o==kH)=Q3 then Q3
else
 if(o==cX)=Q3 then
  if Q0 (ap u z<0)=Q3 then Q3 else if zJ (ap u z) (Io u)=Q3 then Q3 else Q4
 else
  if(o==mS)=Q3 then Q3
  else
   if(o==em)=Q3 then Q3
   else
    if(o==uQ)=Q3 then Q3
    else
     if (o == [61])=true then
      if
        (zJ 0 (Io h)&&
          (Q0 (toNat 0<Io h)&&
           (zJ 1 (Io h)&&
            (Q0 (toNat 1<Io h)&&
             bif h.getD (toNat 0) (zi zg)==h.getD (toNat 1) (zi zg)then Q3
             else
              zJ 0 (Io h)&&
               (Q0 (toNat 0<Io h)&&
                bif h.getD (toNat 0) (zi zg)==0 then Q3
                else zJ 1 (Io h)&&Q0 (toNat 1<Io h))))))=
         Q3 then
       Q3
      else Q4
     else
      if (o == [60])=true then
       if
         (zJ 0 (Io h)&&
           (Q0 (toNat 0<Io h)&&
            (zJ 1 (Io h)&&
             (Q0 (toNat 1<Io h)&&
              bif h.getD (toNat 0) (zi zg)==h.getD (toNat 1) (zi zg)then Q3
              else
               zJ 0 (Io h)&&
                (Q0 (toNat 0<Io h)&&
                 bif h.getD (toNat 0) (zi zg)==0 then Q3
                 else zJ 1 (Io h)&&Q0 (toNat 1<Io h))))))=
          Q3 then
        Q3
       else Q4
      else Q3
 |x::r,B,h=>if c x u=Q3 then
 if((g x u).2!=0)=Q3 then Q3
 else
  if Q0 (Io h+[(g x u).1].length<=1073741824)=Q3 then
   gm g c u o C D F z G r (B+1) (h++[(g x u).1])
  else Q4
else Q4
theorem ZS(g:Sem Q5->Sem (Sh.sl zj)->Sem zg×Sem zg)(c:Sem Q5->Sem (Sh.sl zj)->Bool)(X:FK 206 (zT [Q5,Sh.sl zj] [zg,zg] (λx=>c x.1 x.2.1) λx=>((g x.1 x.2.1).1,(g x.1 x.2.1).2,()))){C:ff}(W:∀id,C.ρ0 id=Q2)(O:LC)(D:zD)(F:Int)(G:Int)(H:zD)(I:zD)(J:LX)(o:LX)(hl:Io o<=aG):∀(m i:Nat)(u:LI),Io o-i=m->i<=Io o->gm g c O D F G H I J (o.drop i) i u=Q3->
  Reach (Si g c) C 206 (aj Tryz.f206 3) (EL O o (Io o:Int) (i:Int) D F G H I J u) (λr h=>aI h [zg,zg] r=Q1 ((aJ g c O D F G H I J (o.drop i) i u).1,(aJ g c O D F G H I J (o.drop i) i u).2,())):=by
 intro m
 induction m with
 | zero=>
  intro i u Z Y B;obtain rfl:i=Io o:=by omega
  rw[jK]at B⊢;refine zK (CX X) (DP g c) (λid _=>W id) (Qu g c _ _ _ _ _ _ _ _ _ _ _) ?_;rw[gm]at B;generalize z:aJ g c O D F G H I J [] _ u=y;rw[aJ]at z;simp only[zf.eta,zB,Tr.val_brF];repeat' (first|with_reducible refine vK z B (λ_ z B=>?_) (λ_ z B=>?_)|with_reducible refine du z (λ_ z=>?_) (λ_ z=>?_)|with_reducible refine iH B (λB=>?_)|with_reducible refine zP ?_)
  all_goals(subst z;first|rfl)
 | succ m T=>
  intro i u Z Y B;have M:i<Io o:=by omega
  have T:=T (i+1);have L:((i:Int)+1)=((i+1:Nat):Int):=by omega
  have S:=zr i ow;rw[fj M]at B⊢;refine zK (CX X) (DP g c) (λid _=>W id) (Qu g c _ _ _ _ _ _ _ _ _ _ _) ?_;rw[gm]at B;generalize z:aJ g c O D F G H I J (o[i]::o.drop (i+1)) (i:Int) u=y;rw[aJ]at z;simp only[zf.eta,zF M,zt M,cM o _ M,S,Tr.val_brT,Tr.val_chkT];clear S;simp only[L]at z
  try simp only[L]at B
  repeat' (first|with_reducible refine vK z B (λ_ z B=>?_) (λ_ z B=>?_)|with_reducible refine du z (λ_ z=>?_) (λ_ z=>?_)|with_reducible refine iH B (λB=>?_)|with_reducible refine zP ?_)
  all_goals(subst z;first|(change Reach _ _ _ _ _ _;apply T<;>first|omega|assumption)|rfl)
theorem Ud(g:Sem Q5->Sem (Sh.sl zj)->Sem zg×Sem zg)(c:Sem Q5->Sem (Sh.sl zj)->Bool)(M:FK 206 (zT [Q5,Sh.sl zj] [zg,zg] (λx=>c x.1 x.2.1) λx=>((g x.1 x.2.1).1,(g x.1 x.2.1).2,()))){C:ff}(J:∀id,C.ρ0 id=Q2)(I:LC)(z:zD)(B:Int)(D:Int)(F:zD)(G:zD)(H:LX)(u:LX)(o:LI)(L:gm g c I z B D F G H u 0 o=Q3):
  Reach (Si g c) C 206 (aj Tryz.f206 3) (EL I u (Io u:Int) 0 z B D F G H o) (λr h=>aI h [zg,zg] r=Q1 ((aJ g c I z B D F G H u 0 o).1,(aJ g c I z B D F G H u 0 o).2,())):=
 Reach.len 15 (Q5) u rfl λO=>ZS g c M J I z B D F G H u O _ 0 o rfl (aO _) L
def yP(g:Sem Q5->Sem (Sh.sl zj)->Sem zg×Sem zg)(c:Sem Q5->Sem (Sh.sl zj)->Bool)(h:Sem Q5)(o:Sem zj.sl):Sem zg×Sem zg:=aJ g c o (zf.op h) (zf.v h).1 (zf.v h).2.1 (zf.v h).2.2 (zf.s h) (zf.l h) (zf.l h) 0 []
def B6(g:Sem Q5->Sem (Sh.sl zj)->Sem zg×Sem zg)(c:Sem Q5->Sem (Sh.sl zj)->Bool)(h:Sem Q5)(o:Sem zj.sl):Bool:=gm g c o (zf.op h) (zf.v h).1 (zf.v h).2.1 (zf.v h).2.2 (zf.s h) (zf.l h) (zf.l h) 0 []
def zp9(g:Sem Q5->Sem (Sh.sl zj)->Sem zg×Sem zg)(c:Sem Q5->Sem (Sh.sl zj)->Bool):zZ:=zT [Q5,zj.sl] [zg,zg] (λx=>B6 g c x.1 x.2.1) λx=>((yP g c x.1 x.2.1).1,(yP g c x.1 x.2.1).2,())
theorem zfL(g:Sem Q5->Sem (Sh.sl zj)->Sem zg×Sem zg)(c:Sem Q5->Sem (Sh.sl zj)->Bool)(z:FK 206 (zT [Q5,Sh.sl zj] [zg,zg] (λx=>c x.1 x.2.1) λx=>((g x.1 x.2.1).1,(g x.1 x.2.1).2,()))):FK 206 (zp9 g c):=by
 refine aM (DP g c) λx o C u=>?_
 unfold B6 at o;refine zK (CX z) (DP g c) (λid _=>u id) (zmO g c x.1 x.2.1) ?_;generalize h:yP g c x.1 x.2.1=y;unfold yP at h
 try simp only[zf.eta,zk]
 repeat' (first|with_reducible refine vK h o (λ_ h o=>?_) (λ_ h o=>?_)|with_reducible refine du h (λ_ h=>?_) (λ_ h=>?_)|with_reducible refine iH o (λo=>?_)|with_reducible refine zP ?_)
 all_goals(subst h;first|(change Reach _ _ _ _ _ _;apply Ud g c z u<;>first|assumption|exact o)|rfl)
mutual
def zS:Nat->Sem Q5->Sem (Sh.sl zj)->Sem zg×Sem zg
 |0=>λ_ _=>default
 |n+1=>yP (zS n) (bj n)
def bj:Nat->Sem Q5->Sem (Sh.sl zj)->Bool
 |0=>λ_ _=>Q4
 |n+1=>B6 (zS n) (bj n)
end
theorem TT:∀n,FK 206 (zT [Q5,Sh.sl zj] [zg,zg] (λx=>bj n x.1 x.2.1) λx=>((zS n x.1 x.2.1).1,(zS n x.1 x.2.1).2,()))
 |0=>eY ⟨Tryz.f206,(DP default default).1,(DP default default).2.1,(DP default default).2.2.1⟩ (λ_=>rfl)
 |n+1=>zfL (zS n) (bj n) (TT n)
def F51:zZ:=zT [Q5,Sh.sl zj] [zg,zg] (λx=>bj 16 x.1 x.2.1) λx=>((zS 16 x.1 x.2.1).1,(zS 16 x.1 x.2.1).2,())
theorem zlf:FK 206 F51:=TT 16
noncomputable def Gj:=U3.add 206 F51
theorem ra:zw Gj:=Gi.add zlf
end Cad
