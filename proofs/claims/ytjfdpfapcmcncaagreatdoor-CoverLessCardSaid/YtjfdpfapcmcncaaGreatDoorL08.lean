/- The library's functions. Values: what may be. Values: what they say. Loops; values in order. Values: order, equal, sums. Values: less; bounded ones. -/
import Derived.Test.YtjfdpfapcmcncaaGreatDoorL06
import Derived.Test.YtjfdpfapcmcncaaGreatDoorL07
import Derived.Test.YtjfdpfapcmcncaaGreatDoorL05
namespace Cad
open Go Go.Proofs Go.RowKit Go.Lib
open List renaming drop→Qh,take→Qg
open AV renaming agg→Qd
open AO renaming box→Qa
open Sh renaming bool→Q7,str→Q6,expr→Q5
open Bool renaming false→Q4,true→Q3
open Option renaming none→Q2,some→Q1
open Decidable renaming decide→Q0
open Int (toNat)
open List (length)
open Tr (chk br)
open AV (nils agg tup ptr kb str sl)
theorem mg.below{w w':World}(h:Below w.heap.size w w'):mg w w':=
 ⟨h.size,h.os,h.output,h.tape,λa ha=>BD (h.block a.block ha)⟩
theorem ef{E:bW}{C:fh}{w w':World}{U:Nat->Prop}{r:AV}{v:Value}{h0:List AO}{ρ:Nat->Option Value}(hH:jF C w U ρ (λj=>h0.getD j .dead))(hnew:∀id,h0.length<=id->ρ id=Q2)
  (hr0:∀id v,C.ρ0 id=Q1 v->ρ id=Q1 v) (hW:Wd E.gl C w U) (hb:Below w.heap.size w w') (hr:Rv w' U ρ r v):Qj E C (λr' h=>(r',h)=(r,h0)) (.returned v) w':=by
 have hk:∀b,b<w.heap.size->w'.heap[b]?=w.heap[b]?:=hb.block;refine⟨v,r,h0,U,ρ,rfl,rfl,hr,⟨λid=>?_,hH.inj,hH.blk⟩,hnew,hr0,⟨hW.ext.trans (mg.below hb),λb hb' hn=>?_,λb hu=>ia (hW.ub b hu) hb.size,hW.u1,hW.u2,λg=>?_⟩⟩
 ·exact(hH.ob id).mono hb.size (λb hb' _=>hk b hb') (λ_ _ h=>h) (λ_ _ h=>h) (λb ho=>⟨hk b ((hH.ob id).inU ho).2,((hH.ob id).inU ho).1⟩)
 ·rw[hk b (ia hb' hW.ext.sz)];exact hW.same b hb' hn
 ·exact(hW.gl g).mono hb.size (λb hb' _=>hk b hb') (λ_ _ h=>h) (λ_ _ h=>h)
noncomputable def zff:bW:=QY.aut 176 Tryz.f176 1
theorem zmy:zI QY.P 176 Tryz.f176 1:=bR kw
theorem TM:zt zff:=iB Ke zmy
def C3(c:Int):Bool:=bif Q0 (c<32)then Q3 else Q0 (c>126)
theorem zo0(c:Int):((bh (List.replicate 1 Q2) (fB QY Tryz.f176 (List.replicate 1 Q2))) [.int .i32 c] (λ_=>.dead) 0).val=Q1 {val:=.bool (C3 c)}:=kw
theorem zgI(w:World)(U:Nat->Prop)(hgl:sX QY.gl w U)(hub:∀b,U b->b<w.heap.size):PredGrows Tryz.prog 176 #[] (λr=>C3 r) w:=by
 intro W x hx hB;have hF:FK 176 (bh (List.replicate 1 Q2) (fB QY Tryz.f176 (List.replicate 1 Q2))):=cd _ Ke zmy;have hr:du W U (λ_=>Q2) [.int .i32 (x:Int)] [.int .i32 (x:Int)]:=by
  refine⟨rfl,λj c v hc hv=>?_⟩;cases j with
  | zero=>
   simp at hc hv;subst hc;subst hv;refine .int _ _ ⟨?_,?_⟩
   ·show(-2147483648:Int)<=x;omega
   ·show(x:Int)<=2147483647;omega
  |succ j=>simp at hc
 have:=(hF.calls W U (λ_=>Q2) (λ_=>.dead) 0 [.int .i32 (x:Int)] [.int .i32 (x:Int)] _ [] (zo0 x) hr (λb hb=>ia (hub b hb) hB.size) (λg=>(hgl g).mono hB.size (λb hb _=>hB.block b hb) (λ_ _ h=>h) (λ_ _ h=>h)) ⟨sw,sw⟩ (by simp[AV.idsL,AV.ids]) sw sw).1;refine this.mono ?_;rintro e w' ⟨v,U',ρ',rfl,hef⟩;have hv:=hef.val;cases hv;exact⟨rfl,⟨hef.ext.os,hef.ext.tape,hef.ext.out,hef.ext.sz,λb hb=>hef.same b hb sw⟩⟩
def pU(s:zB):Int:=Lib.idxFunc (λr=>C3 r) Q3 ⟨s.toArray⟩
def G36:iV [Q1 .str,Q2]:=λx h=>match x,h with
 |(s,.clo (.func 176) [] [],_),[]=>.ok (.int .i64 (pU s),[])
 |_,_=>.err
theorem zoG:Go.Proofs.Enters Tryz.prog 176:=by
  cases hb:Tryz.f176.body with
  | none => have:Tryz.f176.body.isNone=false:=by kernel_rfl
            rw[hb]at this;cases this
  |some c=>exact Go.Proofs.enters_of (fn:=Tryz.f176) kw kw hb
theorem zi1:FK 177 (bh [Q1 .str,Q2] G36):=by
 refine fi (E:=zff) ⟨Tryz.f177,kw,kw,kw⟩ λx h0 res hx=>?_
 unfold G36 at hx;split at hx
 ·rename_i s u;simp only[Tr.val_ok,bB]at hx;subst hx;intro C w U ρ vals _ hr hH hnew hr0 hW;have hl:=hr.len
  match vals,hl,hr with
  | [v1,v2],_,hr=>
   have h1:=hr.rv 0 (.str s) v1 rfl rfl;have h2:=hr.rv 1 (.clo (.func 176) [] []) v2 rfl rfl;cases h1 with
   |str _ hs=>
   cases h2 with
   |clo _ _ _ vf vc hf hc _ _=>
   have hf':vf=[]:=Ah hf.symm;have hc':vc=[]:=Ah hc.symm;subst hf';subst hc';have:=Tryz.strings_IndexFunc_grows 176 #[] zoG (λr=>C3 r) ⟨s.toArray⟩ w (zgI w U hW.gl hW.ub);refine this.mono ?_;rintro e w' ⟨rfl,hb⟩;refine ef hH hnew hr0 hW hb (.int _ _ ?_);have hrg:=Lib.idxFunc_range (λr=>C3 r) Q3 ⟨s.toArray⟩;have hsz:(⟨s.toArray⟩:ByteArray).size=s.length:=by simp[ByteArray.size]
   have hm:aF=9223372036854775807:=rfl;rw[hsz]at hrg;change pU s=-1\/(0<=pU s/\pU s<s.length)at hrg;refine⟨?_,?_⟩
   ·show(-9223372036854775808:Int)<=_;omega
   ·show _<=(9223372036854775807:Int);omega
 ·simp at hx
noncomputable def uG:bW:=zff.add 177 (bh [Q1 .str,Q2] G36)
theorem kz:zt uG:=TM.add zi1
open Go Go.Proofs
abbrev TS:=Sem Q6
abbrev LX:=List (Sem Q5)
abbrev LC:=List (Sem zi)
abbrev LS:=List (Sem Q6)
abbrev LV:=List (Sem zf)
abbrev LI:=List (Sem zg)
abbrev LF:=List (Sem zo)
abbrev V:=Sem zf
def bg(x0:Sem zf):Sem Q7:=if(x0.1==0)=Q3 then if(x0.2.1!=0)=Q3 then Q4 else x0.2.2==[]else if(x0.1==1)=Q3 then x0.2.2==[]else if(x0.1==2)=Q3 then bif x0.2.1==0 then bif Q0 ((↑(length x0.2.2):Int)<=40)then Q0 (pU x0.2.2<0)else Q4 else Q4 else if(x0.1==3)=Q3 then bif x0.2.1==0 then x0.2.2==[]else bif x0.2.1==1 then x0.2.2==[]else Q4 else Q4
theorem zmo:zI uG.P 129 Tryz.f129 1:=bR kw
theorem zoQ(x0:Sem zf):rn uG 0 (λ_=>{ }) Tryz.f129 [zz zf x0] []=br (x0.1==0) (br (x0.2.1!=0) (Tr.ok (zD.ret (kb Q4) [])) (Tr.ok (zD.ret (AV.bool (x0.2.2==[])) []))) (br (x0.1==1) (Tr.ok (zD.ret (AV.bool (x0.2.2==[])) [])) (br (x0.1==2) (Tr.ok (zD.ret (AV.bool (bif x0.2.1==0 then bif Q0 ((↑(length x0.2.2):Int)<=40)then Q0 (pU x0.2.2<0)else Q4 else Q4)) [])) (br (x0.1==3) (Tr.ok (zD.ret (AV.bool (bif x0.2.1==0 then x0.2.2==[]else bif x0.2.1==1 then x0.2.2==[]else Q4)) [])) (Tr.ok (zD.ret (kb Q4) []))))):=kw
def F21:zV:=aG [zf] [Q7] λx=>(bg x.1,())
theorem ziR:FK 129 F21:=by
 refine zY zmo λx C hC=>?_
 refine aT kz zmo (λid _=>hC id) (zoQ x.1) ?_;simp only[Tr.val,bg];repeat' split
 all_goals rfl
def aS(x0:Sem zg):Sem zf:=if(x0==0)=Q3 then(0,0,[])else(3,IntKind.i64.wrap (x0-1),[])
theorem zmR:zI uG.P 343 Tryz.f343 1:=bR kw
theorem zpj(x0:Sem zg):rn uG 0 (λ_=>{ }) Tryz.f343 [zz zg x0] []=br (x0==0) (Tr.ok (zD.ret (Qd [ai 0,ai 0,str []]) [])) (Tr.ok (zD.ret (Qd [ai 3,ai (IntKind.i64.wrap (x0-1)),str []]) [])):=kw
def F57:zV:=aG [zg] [zf] λx=>(aS x.1,())
theorem zjm:FK 343 F57:=by
 refine zY zmR λx C hC=>?_
 refine aT kz zmR (λid _=>hC id) (zpj x.1) ?_;simp only[Tr.val,aS];repeat' split
 all_goals rfl
noncomputable def zha:zV:=bh (List.replicate 1 Q2) (fB uG Tryz.f216 (List.replicate 1 Q2))
theorem zcX:FK 216 zha:=cd _ kz (bR kw)
noncomputable def zhb:zV:=bh (List.replicate 1 Q2) (fB uG Tryz.f217 (List.replicate 1 Q2))
theorem zcY:FK 217 zhb:=cd _ kz (bR kw)
noncomputable def zhc:zV:=bh (List.replicate 1 Q2) (fB uG Tryz.f218 (List.replicate 1 Q2))
theorem zcZ:FK 218 zhc:=cd _ kz (bR kw)
noncomputable def lO:=uG.addL [(129,F21),(343,F57),(216,zha),(217,zhb),(218,zhc)]
theorem jg:zt lO:=kz.addL<|fc ziR<|fc zjm<|fc zcX<|fc zcY<|fc zcZ ja
def au(x0:Sem zf):Sem zf:=if(!bg x0)=Q3 then(0,0,[])else x0
theorem zmV:zI lO.P 170 Tryz.f170 1:=bR kw
theorem zpn(x0:Sem zf):rn lO 0 (λ_=>{ }) Tryz.f170 [zz zf x0] []=br (!bg x0) (Tr.ok (zD.ret (Qd [ai 0,ai 0,str []]) [])) (Tr.ok (zD.ret (Qd [ai x0.1,ai x0.2.1,str x0.2.2]) [])):=kw
def F61:zV:=aG [zf] [zf] λx=>(au x.1,())
theorem zjr:FK 170 F61:=by
 refine zY zmV λx C hC=>?_
 refine aT jg zmV (λid _=>hC id) (zpn x.1) ?_;simp only[Tr.val,au];repeat' split
 all_goals rfl
def ea(x0:Sem zf):Sem zg:=if(bif x0.1!=3 then Q3 else !bg x0)=Q3 then 0 else IntKind.i64.wrap (1+x0.2.1)
theorem zmQ:zI lO.P 290 Tryz.f290 1:=bR kw
theorem zpi(x0:Sem zf):rn lO 0 (λ_=>{ }) Tryz.f290 [zz zf x0] []=br (bif x0.1!=3 then Q3 else !bg x0) (Tr.ok (zD.ret (ai 0) [])) (Tr.ok (zD.ret (ai (IntKind.i64.wrap (1+x0.2.1))) [])):=kw
def F56:zV:=aG [zf] [zg] λx=>(ea x.1,())
theorem zjl:FK 290 F56:=by
 refine zY zmQ λx C hC=>?_
 refine aT jg zmQ (λid _=>hC id) (zpi x.1) ?_;simp only[Tr.val,ea];repeat' split
 all_goals rfl
def dt(x0:Sem Q7):Sem zf:=if x0=Q3 then aS 2 else aS 1
theorem zmT:zI lO.P 345 Tryz.f345 1:=bR kw
theorem zpl(x0:Sem Q7):rn lO 0 (λ_=>{ }) Tryz.f345 [zz Q7 x0] []=br x0 (Tr.ok (zD.ret (Qd [ai (aS 2).1,ai (aS 2).2.1,str (aS 2).2.2]) [])) (Tr.ok (zD.ret (Qd [ai (aS 1).1,ai (aS 1).2.1,str (aS 1).2.2]) [])):=kw
def F59:zV:=aG [Q7] [zf] λx=>(dt x.1,())
theorem zjo:FK 345 F59:=by
 refine zY zmT λx C hC=>?_
 refine aT jg zmT (λid _=>hC id) (zpl x.1) ?_;simp only[Tr.val,dt];repeat' split
 all_goals rfl
def tn(x0:Sem zg)(x1:Sem zg):Sem zg:=if(x0 !=x0)=Q3 then if(x1 !=x1)=Q3 then 0 else -1 else if(x1 !=x1)=Q3 then 1 else if Q0 (x0<x1)=Q3 then -1 else if Q0 (x0>x1)=Q3 then 1 else 0
theorem zmY:zI lO.P 172 Tryz.f172 2:=bR kw
theorem zpr(x0:Sem zg)(x1:Sem zg):rn lO 0 (λ_=>{ }) Tryz.f172 [zz zg x0,zz zg x1] []=br (x0 !=x0) (br (x1 !=x1) (Tr.ok (zD.ret (ai 0) [])) (Tr.ok (zD.ret (ai (-1)) []))) (br (x1 !=x1) (Tr.ok (zD.ret (ai 1) [])) (br (Q0 (x0<x1)) (Tr.ok (zD.ret (ai (-1)) [])) (br (Q0 (x0>x1)) (Tr.ok (zD.ret (ai 1) [])) (Tr.ok (zD.ret (ai 0) []))))):=kw
def F71:zV:=aG [zg,zg] [zg] λx=>(tn x.1 x.2.1,())
theorem zjz:FK 172 F71:=by
 refine zY zmY λx C hC=>?_
 refine aT jg zmY (λid _=>hC id) (zpr x.1 x.2.1) ?_;simp only[Tr.val,tn];repeat' split
 all_goals rfl
def kR(x0:Sem zg)(x1:Sem zg):Sem zg:=if(x0 !=x0)=Q3 then if(x1 !=x1)=Q3 then 0 else -1 else if(x1 !=x1)=Q3 then 1 else if Q0 (x0<x1)=Q3 then -1 else if Q0 (x0>x1)=Q3 then 1 else 0
theorem zm0:zI lO.P 173 Tryz.f173 2:=bR kw
theorem zps(x0:Sem zg)(x1:Sem zg):rn lO 0 (λ_=>{ }) Tryz.f173 [zz zg x0,zz zg x1] []=br (x0 !=x0) (br (x1 !=x1) (Tr.ok (zD.ret (ai 0) [])) (Tr.ok (zD.ret (ai (-1)) []))) (br (x1 !=x1) (Tr.ok (zD.ret (ai 1) [])) (br (Q0 (x0<x1)) (Tr.ok (zD.ret (ai (-1)) [])) (br (Q0 (x0>x1)) (Tr.ok (zD.ret (ai 1) [])) (Tr.ok (zD.ret (ai 0) []))))):=kw
def F72:zV:=aG [zg,zg] [zg] λx=>(kR x.1 x.2.1,())
theorem zjA:FK 173 F72:=by
 refine zY zm0 λx C hC=>?_
 refine aT jg zm0 (λid _=>hC id) (zps x.1 x.2.1) ?_;simp only[Tr.val,kR];repeat' split
 all_goals rfl
def o7(x0:Sem Q6)(x1:Sem Q6):Sem zg:=if(!x0==x0)=Q3 then if(!x1==x1)=Q3 then 0 else -1 else if(!x1==x1)=Q3 then 1 else if Op.bytesLess x0 x1=Q3 then -1 else if(!(Op.bytesLess x0 x1||x0==x1))=Q3 then 1 else 0
theorem zm1:zI lO.P 174 Tryz.f174 2:=bR kw
theorem zpt(x0:Sem Q6)(x1:Sem Q6):rn lO 0 (λ_=>{ }) Tryz.f174 [zz Q6 x0,zz Q6 x1] []=br (!x0==x0) (br (!x1==x1) (Tr.ok (zD.ret (ai 0) [])) (Tr.ok (zD.ret (ai (-1)) []))) (br (!x1==x1) (Tr.ok (zD.ret (ai 1) [])) (br (Op.bytesLess x0 x1) (Tr.ok (zD.ret (ai (-1)) [])) (br (!(Op.bytesLess x0 x1||x0==x1)) (Tr.ok (zD.ret (ai 1) [])) (Tr.ok (zD.ret (ai 0) []))))):=kw
def F73:zV:=aG [Q6,Q6] [zg] λx=>(o7 x.1 x.2.1,())
theorem zjB:FK 174 F73:=by
 refine zY zm1 λx C hC=>?_
 refine aT jg zm1 (λid _=>hC id) (zpt x.1 x.2.1) ?_;simp only[Tr.val,o7];repeat' split
 all_goals rfl
noncomputable def ke:=lO.addL [(170,F61),(290,F56),(345,F59),(172,F71),(173,F72),(174,F73)]
theorem fj:zt ke:=jg.addL<|fc zjr<|fc zjl<|fc zjo<|fc zjz<|fc zjA<|fc zjB ja
theorem DK{E:bW}{C:fh}{k:FuncId}{f:Func}{Q:AV->List AO->Prop}{n n0:Nat}(hE:zt E)(hf:zI E.P k f n)(hC:∀id,n0<=id->C.ρ0 id=Q2){keep:Nat->aN}{fuel:Nat}
  {todo:List Item} {st:St} {t:Tr zD} {l:zD} (ht:run E n0 keep f.results.toList fuel todo st=t) (h:t.val=Q1 l) (hl:jX E C k Q l):Reach E C k todo st Q:=
 dC hE hf hC keep fuel (by rw[ht];exact Tr.sat_of_val h hl)
def gC{α:Type}(Φ:α->Prop):Option α->Prop
 |some a=>Φ a
 |none=>False
theorem zE{E:bW}{C:fh}{k:FuncId}{f:Func}{Q:AV->List AO->Prop}{n n0:Nat}(hE:zt E)(hf:zI E.P k f n)(hC:∀id,n0<=id->C.ρ0 id=Q2){keep:Nat->aN}{fuel:Nat}
  {todo:List Item} {st:St} {t:Tr zD} (ht:run E n0 keep f.results.toList fuel todo st=t) (h:gC (jX E C k Q) t.val):Reach E C k todo st Q:=by
 cases hv:t.val with
 |none=>rw[hv]at h;exact h.elim
 |some l=>rw[hv]at h;exact DK hE hf hC ht hv h
def Ko{α β R:Type}(f:β->Nat->α->β⊕R)(fin:β->R):List α->Nat->β->R
 |[],_,b=>fin b
 | x::r,i,b=>match f b i x with
  |.inl b'=>Ko f fin r (i+1) b'
  |.inr y=>y
def Yj{E:bW}{C:fh}{k:FuncId}{K:List Item}{β R:Type}(st:β->Nat->St)(Q:R->AV->List AO->Prop)(b:β)(i:Nat):β⊕R->Prop
 |.inl b'=>∀q,Reach E C k K (st b' (i+1)) q->Reach E C k K (st b i) q
 |.inr y=>Reach E C k K (st b i) (Q y)
theorem DL{E:bW}{C:fh}{k:FuncId}{K:List Item}{α β R:Type}(l:List α)(st:β->Nat->St)(f:β->Nat->α->β⊕R)(fin:β->R)(Q:R->AV->List AO->Prop)(I:β->Nat->Prop)
  (hstep:∀b i(hi:i<l.length),I b i->Yj (E:=E) (C:=C) (k:=k) (K:=K) st Q b i (f b i l[i])/\∀b',f b i l[i]=.inl b'->I b' (i+1))
  (hend:∀b,I b l.length->Reach E C k K (st b l.length) (Q (fin b))):∀(m i:Nat)(b:β),l.length-i=m->i<=l.length->I b i->Reach E C k K (st b i) (Q (Ko f fin (l.drop i) i b))
 | 0,i,b,hm,hi,hI=>by
  have:i=l.length:=by omega
  subst this;rw[jH];exact hend b hI
 | m+1,i,b,hm,hi,hI=>by
  have hlt:i<l.length:=by omega
  rw[fH hlt];obtain⟨h1,h2⟩:=hstep b i hlt hI;simp only[Ko];cases hf:f b i l[i]with
  | inl b'=>
   rw[hf]at h1;exact h1 _ (DL l st f fin Q I hstep hend m (i+1) b' ow ow (h2 b' hf))
  | inr y=>
   rw[hf]at h1;exact h1
theorem zJ{i n:Nat}(h:i<n):Q0 ((i:Int)<(n:Int))=Q3:=by simpa using h
theorem zC(n:Nat):Q0 ((n:Int)<(n:Int))=Q4:=by simp
theorem zw{i n:Nat}(h:i<n):zO (i:Int) n=Q3:=by simp[zO,h]
def HQ:List Int->Int
 |[]=>0
 |x::r=>if x !=0 then x else HQ r
abbrev zlZ:Nat->aN:=λj=>if j=3 then{slots:=[3,6,7,8]}else{ }
abbrev PF(i3:Int)(l6:List (Sem zg))(i7:Int)(i8:Int):St:={tmps:=(tm 18 [(3,ai i3),(6,sl (Sh.int IntKind.i64) l6),(7,ai i7),(8,ai i8)]),heap:=[]}
theorem VC:zI ke.P 171 Tryz.f171 1:=bR kw
theorem zpq(k:List (Sem zg)):rn ke 0 zlZ Tryz.f171 [sl zg k] []=Tr.ok (zD.head 3 (ac Tryz.f171 3) (PF 0 k (↑k.length) 0)):=kw
theorem Nh(i3:Int)(l6:List (Sem zg))(i7:Int)(i8:Int):rh ke 0 zlZ Tryz.f171 3 (PF i3 l6 i7 i8)=br (Q0 (i8<i7)) (chk (zO i8 l6.length) (br (l6.getD i8.toNat (zj (Sh.int IntKind.i64))!=i3) (Tr.ok (zD.ret (ai (l6.getD i8.toNat (zj (Sh.int IntKind.i64)))) [])) (Tr.ok (zD.head 3 (ac Tryz.f171 3) (PF i3 l6 i7 (IntKind.i64.wrap (i8+1))))))) (Tr.ok (zD.ret (ai i3) [])):=kw
def f70:Unit->Nat->Int->Unit⊕Int:=λ_ _ x=>if x !=0 then .inr x else .inl ()
theorem TZ:∀(l:List Int)(i:Nat),Ko f70 (λ_=>0) l i ()=HQ l
 |[],_=>rfl
 | x::r,i=>by
  simp only[Ko,f70,HQ];split
  ·rename_i h;split at h<;>simp_all[TZ r (i+1)]
  ·rename_i h;split at h<;>simp_all
def F70:zV:=aG [.sl zg] [zg] λx=>(HQ x.1,())
theorem zjy:FK 171 F70:=by
 refine zY VC λx C hC=>?_
 obtain⟨l,u⟩:=x;refine Reach.len 0 zg l rfl λhl=>?_
 refine DK fj VC (λid _=>hC id) (zpq l) rfl ?_
 have:=DL (E:=ke) (C:=C) (k:=171) (K:=ac Tryz.f171 3) l (λ(_:Unit) i=>PF 0 l l.length i) f70 (λ_=>(0:Int)) (λy r h=>aM h [zg] r=Q1 (y,())) (λ_ _=>True)
  (λb i hi _=>⟨by
   unfold f70;split
   ·rename_i h;refine zE fj VC (λid _=>hC id) (Nh _ _ _ _) ?_;simp only[Tr.val,zJ hi,zw hi,cI l _ hi,h,if_true];rfl
   ·rename_i h;intro q hq;refine zE fj VC (λid _=>hC id) (Nh _ _ _ _) ?_;simp only[Tr.val,zJ hi,zw hi,cI l _ hi,h,if_true,zr i ow];exact hq,λ_ _=>trivial⟩)
  (λb _=>by
   refine zE fj VC (λid _=>hC id) (Nh _ _ _ _) ?_;simp only[Tr.val,zC];rfl) _ 0 () rfl ow trivial
 rw[TZ]at this;exact this
def eX(x0:Sem zf)(x1:Sem zf):Sem Q7:=bif (au x0).1!=0 then(au x0).1==(au x1).1 else Q4
theorem zmS:zI ke.P 344 Tryz.f344 2:=bR kw
theorem zpk(x0:Sem zf)(x1:Sem zf):rn ke 0 (λ_=>{ }) Tryz.f344 [zz zf x0,zz zf x1] []=Tr.ok (zD.ret (AV.bool (bif (au x0).1!=0 then(au x0).1==(au x1).1 else Q4)) []):=kw
def F58:zV:=aG [zf,zf] [Q7] λx=>(eX x.1 x.2.1,())
theorem zjn:FK 344 F58:=by
 refine zY zmS λx C hC=>?_
 refine aT fj zmS (λid _=>hC id) (zpk x.1 x.2.1) ?_;simp only[Tr.val,eX];repeat' split
 all_goals rfl
def ET(x0:Sem zf)(x1:Sem zf):Sem zf:=if(bif ea x0==1 then Q3 else ea x1==1)=Q3 then aS 1 else if(bif ea x0==2 then ea x1==2 else Q4)=Q3 then aS 2 else aS 0
theorem zmB:zI ke.P 317 Tryz.f317 2:=bR kw
theorem zo2(x0:Sem zf)(x1:Sem zf):rn ke 0 (λ_=>{ }) Tryz.f317 [zz zf x0,zz zf x1] []=br (bif ea x0==1 then Q3 else ea x1==1) (Tr.ok (zD.ret (Qd [ai (aS 1).1,ai (aS 1).2.1,str (aS 1).2.2]) [])) (br (bif ea x0==2 then ea x1==2 else Q4) (Tr.ok (zD.ret (Qd [ai (aS 2).1,ai (aS 2).2.1,str (aS 2).2.2]) [])) (Tr.ok (zD.ret (Qd [ai (aS 0).1,ai (aS 0).2.1,str (aS 0).2.2]) []))):=kw
def F38:zV:=aG [zf,zf] [zf] λx=>(ET x.1 x.2.1,())
theorem zi3:FK 317 F38:=by
 refine zY zmB λx C hC=>?_
 refine aT fj zmB (λid _=>hC id) (zo2 x.1 x.2.1) ?_;simp only[Tr.val,ET];repeat' split
 all_goals rfl
def Xf(x0:Sem zf)(x1:Sem zf):Sem zf:=if(bif ea x0==2 then Q3 else ea x1==2)=Q3 then aS 2 else if(bif ea x0==1 then ea x1==1 else Q4)=Q3 then aS 1 else aS 0
theorem zmC:zI ke.P 318 Tryz.f318 2:=bR kw
theorem zo3(x0:Sem zf)(x1:Sem zf):rn ke 0 (λ_=>{ }) Tryz.f318 [zz zf x0,zz zf x1] []=br (bif ea x0==2 then Q3 else ea x1==2) (Tr.ok (zD.ret (Qd [ai (aS 2).1,ai (aS 2).2.1,str (aS 2).2.2]) [])) (br (bif ea x0==1 then ea x1==1 else Q4) (Tr.ok (zD.ret (Qd [ai (aS 1).1,ai (aS 1).2.1,str (aS 1).2.2]) [])) (Tr.ok (zD.ret (Qd [ai (aS 0).1,ai (aS 0).2.1,str (aS 0).2.2]) []))):=kw
def F39:zV:=aG [zf,zf] [zf] λx=>(Xf x.1 x.2.1,())
theorem zi4:FK 318 F39:=by
 refine zY zmC λx C hC=>?_
 refine aT fj zmC (λid _=>hC id) (zo3 x.1 x.2.1) ?_;simp only[Tr.val,Xf];repeat' split
 all_goals rfl
def At(x0:Sem zf):Sem zf:=if(ea x0==2)=Q3 then aS 1 else if(ea x0==1)=Q3 then aS 2 else aS 0
theorem zmE:zI ke.P 320 Tryz.f320 1:=bR kw
theorem zo5(x0:Sem zf):rn ke 0 (λ_=>{ }) Tryz.f320 [zz zf x0] []=br (ea x0==2) (Tr.ok (zD.ret (Qd [ai (aS 1).1,ai (aS 1).2.1,str (aS 1).2.2]) [])) (br (ea x0==1) (Tr.ok (zD.ret (Qd [ai (aS 2).1,ai (aS 2).2.1,str (aS 2).2.2]) [])) (Tr.ok (zD.ret (Qd [ai (aS 0).1,ai (aS 0).2.1,str (aS 0).2.2]) []))):=kw
def F41:zV:=aG [zf] [zf] λx=>(At x.1,())
theorem zi6:FK 320 F41:=by
 refine zY zmE λx C hC=>?_
 refine aT fj zmE (λid _=>hC id) (zo5 x.1) ?_;simp only[Tr.val,At];repeat' split
 all_goals rfl
def jE(x0:Sem zf):Sem zf:=dt ((au x0).1==0)
theorem zmL:zI ke.P 326 Tryz.f326 1:=bR kw
theorem zpb(x0:Sem zf):rn ke 0 (λ_=>{ }) Tryz.f326 [zz zf x0] []=Tr.ok (zD.ret (Qd [ai (dt ((au x0).1==0)).1,ai (dt ((au x0).1==0)).2.1,str (dt ((au x0).1==0)).2.2]) []):=kw
def F47:zV:=aG [zf] [zf] λx=>(jE x.1,())
theorem zjc:FK 326 F47:=by
 refine zY zmL λx C hC=>?_
 refine aT fj zmL (λid _=>hC id) (zpb x.1) ?_;simp only[Tr.val,jE];repeat' split
 all_goals rfl
noncomputable def lP:=ke.addL [(171,F70),(344,F58),(317,F38),(318,F39),(320,F41),(326,F47)]
theorem jh:zt lP:=fj.addL<|fc zjy<|fc zjn<|fc zi3<|fc zi4<|fc zi6<|fc zjc ja
def cW(x0:Sem zf)(x1:Sem zf):Sem zg:=HQ [tn (au x0).1 (au x1).1,kR (au x0).2.1 (au x1).2.1,o7 (au x0).2.2 (au x1).2.2]
theorem zmU:zI lP.P 122 Tryz.f122 2:=bR kw
theorem zpm(x0:Sem zf)(x1:Sem zf):rn lP 0 (λ_=>{ }) Tryz.f122 [zz zf x0,zz zf x1] []=Tr.ok (zD.ret (AV.int IntKind.i64 (HQ [tn (au x0).1 (au x1).1,kR (au x0).2.1 (au x1).2.1,o7 (au x0).2.2 (au x1).2.2])) []):=kw
def F60:zV:=aG [zf,zf] [zg] λx=>(cW x.1 x.2.1,())
theorem zjq:FK 122 F60:=by
 refine zY zmU λx C hC=>?_
 refine aT jh zmU (λid _=>hC id) (zpm x.1 x.2.1) ?_;simp only[Tr.val,cW];repeat' split
 all_goals rfl
def mv(x0:Sem zf)(x1:Sem zf):Sem zf:=if(!eX x0 x1)=Q3 then(0,0,[])else dt (x0.1==x1.1&&(x0.2.1==x1.2.1&&(x0.2.2==x1.2.2&&Q3)))
theorem zmF:zI lP.P 321 Tryz.f321 2:=bR kw
theorem zo6(x0:Sem zf)(x1:Sem zf):rn lP 0 (λ_=>{ }) Tryz.f321 [zz zf x0,zz zf x1] []=br (!eX x0 x1) (Tr.ok (zD.ret (Qd [ai 0,ai 0,str []]) [])) (Tr.ok (zD.ret (Qd [ai (dt (x0.1==x1.1&&(x0.2.1==x1.2.1&&(x0.2.2==x1.2.2&&Q3)))).1,ai (dt (x0.1==x1.1&&(x0.2.1==x1.2.1&&(x0.2.2==x1.2.2&&Q3)))).2.1,str (dt (x0.1==x1.1&&(x0.2.1==x1.2.1&&(x0.2.2==x1.2.2&&Q3)))).2.2]) [])):=kw
def F42:zV:=aG [zf,zf] [zf] λx=>(mv x.1 x.2.1,())
theorem zi7:FK 321 F42:=by
 refine zY zmF λx C hC=>?_
 refine aT jh zmF (λid _=>hC id) (zo6 x.1 x.2.1) ?_;simp only[Tr.val,mv];repeat' split
 all_goals rfl
def sW(x0:Sem zf)(x1:Sem zf):Sem zf:=if(bif !eX x0 x1 then Q3 else x0.1!=1)=Q3 then(0,0,[])else if(bif Q0 (x1.2.1>0)then bif Q0 (IntKind.i64.wrap (x0.2.1+x1.2.1)<x0.2.1)then Q3 else bif Q0 (x1.2.1<0)then Q0 (IntKind.i64.wrap (x0.2.1+x1.2.1)>x0.2.1)else Q4 else bif Q0 (x1.2.1<0)then Q0 (IntKind.i64.wrap (x0.2.1+x1.2.1)>x0.2.1)else Q4)=Q3 then(0,0,[])else(1,IntKind.i64.wrap (x0.2.1+x1.2.1),[])
theorem zmI:zI lP.P 323 Tryz.f323 2:=bR kw
theorem zo8(x0:Sem zf)(x1:Sem zf):rn lP 0 (λ_=>{ }) Tryz.f323 [zz zf x0,zz zf x1] []=br (bif !eX x0 x1 then Q3 else x0.1!=1) (Tr.ok (zD.ret (Qd [ai 0,ai 0,str []]) [])) (br (bif Q0 (x1.2.1>0)then bif Q0 (IntKind.i64.wrap (x0.2.1+x1.2.1)<x0.2.1)then Q3 else bif Q0 (x1.2.1<0)then Q0 (IntKind.i64.wrap (x0.2.1+x1.2.1)>x0.2.1)else Q4 else bif Q0 (x1.2.1<0)then Q0 (IntKind.i64.wrap (x0.2.1+x1.2.1)>x0.2.1)else Q4) (Tr.ok (zD.ret (Qd [ai 0,ai 0,str []]) [])) (Tr.ok (zD.ret (Qd [ai 1,ai (IntKind.i64.wrap (x0.2.1+x1.2.1)),str []]) []))):=kw
def F44:zV:=aG [zf,zf] [zf] λx=>(sW x.1 x.2.1,())
theorem zi9:FK 323 F44:=by
 refine zY zmI λx C hC=>?_
 refine aT jh zmI (λid _=>hC id) (zo8 x.1 x.2.1) ?_;simp only[Tr.val,sW];repeat' split
 all_goals rfl
def mw(x0:Sem zf)(x1:Sem zf):Sem zf:=if(bif !eX x0 x1 then Q3 else x0.1!=1)=Q3 then(0,0,[])else if(bif Q0 (x1.2.1>0)then bif Q0 (IntKind.i64.wrap (x0.2.1-x1.2.1)>x0.2.1)then Q3 else bif Q0 (x1.2.1<0)then Q0 (IntKind.i64.wrap (x0.2.1-x1.2.1)<x0.2.1)else Q4 else bif Q0 (x1.2.1<0)then Q0 (IntKind.i64.wrap (x0.2.1-x1.2.1)<x0.2.1)else Q4)=Q3 then(0,0,[])else(1,IntKind.i64.wrap (x0.2.1-x1.2.1),[])
theorem zmJ:zI lP.P 324 Tryz.f324 2:=bR kw
theorem zo9(x0:Sem zf)(x1:Sem zf):rn lP 0 (λ_=>{ }) Tryz.f324 [zz zf x0,zz zf x1] []=br (bif !eX x0 x1 then Q3 else x0.1!=1) (Tr.ok (zD.ret (Qd [ai 0,ai 0,str []]) [])) (br (bif Q0 (x1.2.1>0)then bif Q0 (IntKind.i64.wrap (x0.2.1-x1.2.1)>x0.2.1)then Q3 else bif Q0 (x1.2.1<0)then Q0 (IntKind.i64.wrap (x0.2.1-x1.2.1)<x0.2.1)else Q4 else bif Q0 (x1.2.1<0)then Q0 (IntKind.i64.wrap (x0.2.1-x1.2.1)<x0.2.1)else Q4) (Tr.ok (zD.ret (Qd [ai 0,ai 0,str []]) [])) (Tr.ok (zD.ret (Qd [ai 1,ai (IntKind.i64.wrap (x0.2.1-x1.2.1)),str []]) []))):=kw
def F45:zV:=aG [zf,zf] [zf] λx=>(mw x.1 x.2.1,())
theorem zja:FK 324 F45:=by
 refine zY zmJ λx C hC=>?_
 refine aT jh zmJ (λid _=>hC id) (zo9 x.1 x.2.1) ?_;simp only[Tr.val,mw];repeat' split
 all_goals rfl
def PT(x0:Sem zf)(_:Sem zf):Sem zf:=At x0
theorem zmD:zI lP.P 319 Tryz.f319 2:=bR kw
theorem zo4(x0:Sem zf)(x1:Sem zf):rn lP 0 (λ_=>{ }) Tryz.f319 [zz zf x0,zz zf x1] []=Tr.ok (zD.ret (Qd [ai (At x0).1,ai (At x0).2.1,str (At x0).2.2]) []):=kw
def F40:zV:=aG [zf,zf] [zf] λx=>(PT x.1 x.2.1,())
theorem zi5:FK 319 F40:=by
 refine zY zmD λx C hC=>?_
 refine aT jh zmD (λid _=>hC id) (zo4 x.1 x.2.1) ?_;simp only[Tr.val,PT];repeat' split
 all_goals rfl
def Jf(x0:Sem zf)(_:Sem zf):Sem zf:=jE x0
theorem zmK:zI lP.P 325 Tryz.f325 2:=bR kw
theorem zpa(x0:Sem zf)(x1:Sem zf):rn lP 0 (λ_=>{ }) Tryz.f325 [zz zf x0,zz zf x1] []=Tr.ok (zD.ret (Qd [ai (jE x0).1,ai (jE x0).2.1,str (jE x0).2.2]) []):=kw
def F46:zV:=aG [zf,zf] [zf] λx=>(Jf x.1 x.2.1,())
theorem zjb:FK 325 F46:=by
 refine zY zmK λx C hC=>?_
 refine aT jh zmK (λid _=>hC id) (zpa x.1 x.2.1) ?_;simp only[Tr.val,Jf];repeat' split
 all_goals rfl
noncomputable def sD:=lP.addL [(122,F60),(321,F42),(323,F44),(324,F45),(319,F40),(325,F46)]
theorem kA:zt sD:=jh.addL<|fc zjq<|fc zi7<|fc zi9<|fc zja<|fc zi5<|fc zjb ja
def sV(x0:Sem zf)(x1:Sem zf):Sem zf:=if(!eX x0 x1)=Q3 then(0,0,[])else dt (Q0 (cW x0 x1<0))
theorem zmH:zI sD.P 322 Tryz.f322 2:=bR kw
theorem zo7(x0:Sem zf)(x1:Sem zf):rn sD 0 (λ_=>{ }) Tryz.f322 [zz zf x0,zz zf x1] []=br (!eX x0 x1) (Tr.ok (zD.ret (Qd [ai 0,ai 0,str []]) [])) (Tr.ok (zD.ret (Qd [ai (dt (Q0 (cW x0 x1<0))).1,ai (dt (Q0 (cW x0 x1<0))).2.1,str (dt (Q0 (cW x0 x1<0))).2.2]) [])):=kw
def F43:zV:=aG [zf,zf] [zf] λx=>(sV x.1 x.2.1,())
theorem zi8:FK 322 F43:=by
 refine zY zmH λx C hC=>?_
 refine aT kA zmH (λid _=>hC id) (zo7 x.1 x.2.1) ?_;simp only[Tr.val,sV];repeat' split
 all_goals rfl
def EU(x0:Sem zf):Sem zf:=if Q0 ((↑(length x0.2.2):Int)>60)=Q3 then(x0.1,x0.2.1,Qg (toNat 60-toNat 0) (Qh (toNat 0) x0.2.2))else x0
def LZ(x0:Sem zf):Bool:=bif Q0 ((↑(length x0.2.2):Int)>60)then Q0 (0<=0)&&Q0 (0<=60)&&Q0 (60<=(↑(length x0.2.2):Int))else Q3
theorem zml:zI sD.P 85 Tryz.f85 1:=bR kw
theorem zoN(x0:Sem zf):rn sD 0 (λ_=>{ }) Tryz.f85 [zz zf x0] []=br (Q0 ((↑(length x0.2.2):Int)>60)) (chk (Q0 (0<=0)&&Q0 (0<=60)&&Q0 (60<=(↑(length x0.2.2):Int))) (Tr.ok (zD.ret (Qd [ai x0.1,ai x0.2.1,str (Qg (toNat 60-toNat 0) (Qh (toNat 0) x0.2.2))]) []))) (Tr.ok (zD.ret (Qd [ai x0.1,ai x0.2.1,str x0.2.2]) [])):=kw
def F14:zV:=zN [zf] [zf] (λx=>LZ x.1) λx=>(EU x.1,())
theorem zbs:FK 85 F14:=by
 refine aJ zml λx hx C hC=>?_
 refine aT kA zml (λid _=>hC id) (zoN x.1) ?_;simp only[LZ,Bool.cond_eq_ite]at hx;simp only[Tr.val,EU];repeat' split
 all_goals first|rfl|simp_all
def jt(x0:Sem Q6):Sem Q6:=if Q0 ((↑(length x0):Int)>20)=Q3 then Qg (toNat 20-toNat 0) (Qh (toNat 0) x0)else x0
def PG(x0:Sem Q6):Bool:=bif Q0 ((↑(length x0):Int)>20)then Q0 (0<=0)&&Q0 (0<=20)&&Q0 (20<=(↑(length x0):Int))else Q3
theorem zmk:zI sD.P 135 Tryz.f135 1:=bR kw
theorem zoM(x0:Sem Q6):rn sD 0 (λ_=>{ }) Tryz.f135 [zz Q6 x0] []=br (Q0 ((↑(length x0):Int)>20)) (chk (Q0 (0<=0)&&Q0 (0<=20)&&Q0 (20<=(↑(length x0):Int))) (Tr.ok (zD.ret (str (Qg (toNat 20-toNat 0) (Qh (toNat 0) x0))) []))) (Tr.ok (zD.ret (str x0) [])):=kw
def F12:zV:=zN [Q6] [Q6] (λx=>PG x.1) λx=>(jt x.1,())
theorem zbr:FK 135 F12:=by
 refine aJ zmk λx hx C hC=>?_
 refine aT kA zmk (λid _=>hC id) (zoM x.1) ?_;simp only[PG,Bool.cond_eq_ite]at hx;simp only[Tr.val,jt];repeat' split
 all_goals first|rfl|simp_all
noncomputable def F79:zV:=bh (List.replicate 2 Q2) (fB sD Tryz.f297 (List.replicate 2 Q2))
theorem zjD:FK 297 F79:=cd _ kA (bR kw)
noncomputable def F18:zV:=bh (List.replicate 2 Q2) (fB sD Tryz.f220 (List.replicate 2 Q2))
theorem ziQ:FK 220 F18:=cd _ kA (bR kw)
noncomputable def zbC:=sD.addL [(322,F43),(85,F14),(135,F12),(297,F79),(220,F18)]
theorem wS:zt zbC:=kA.addL<|fc zi8<|fc zbs<|fc zbr<|fc zjD<|fc ziQ ja
open Go
def ud:(ks:List Sh)->zx (ks.map Q1++[Q2])->zx (ks.map Q1)×AV
 |[],x=>((),x.1)
 |_::ks,x=>((x.1,(ud ks x.2).1),(ud ks x.2).2)
theorem BL:∀(ks:List Sh)(x:zx (ks.map Q1++[Q2])),jx (ks.map Q1++[Q2]) x=jx (ks.map Q1) (ud ks x).1++[(ud ks x).2]
 |[],_=>rfl
 |s::ks,x=>congrArg (zz s x.1::·) (BL ks x.2)
def Uv(k:Nat):AV->Bool
 |.clo (.func j) [] []=>j==k
 |_=>Q4
theorem Uw{k:Nat}{v:AV}(h:Uv k v=Q3):v=.clo (.func k) [] []:=by
 unfold Uv at h;split at h
 ·rw[aZ]at h;rw[h]
 ·cases h
abbrev Sj(ks outs:List Sh):=Nat×(zx (ks.map Q1)->Bool)×(zx (ks.map Q1)->zx (outs.map Q1))
def Yo{ks outs:List Sh}(v:AV):List (Sj ks outs)->Option ((zx (ks.map Q1)->Bool)×(zx (ks.map Q1)->zx (outs.map Q1)))
 |[]=>Q2
 |(k,a)::r=>if Uv k v then Q1 a else Yo v r
theorem JG{ks outs:List Sh}{v:AV}{a}:∀{l:List (Sj ks outs)},Yo v l=Q1 a->∃k,v=.clo (.func k) [] []/\(k,a)∈l
 |[],h=>by cases h
 | (k,b)::r,h=>by
  unfold Yo at h;split at h
  ·rename_i hk;cases h;exact⟨k,Uw hk,yn ..⟩
  ·obtain⟨j,h1,h2⟩:=JG h;exact⟨j,h1,sB _ h2⟩
def Pe(ks outs:List Sh)(l:List (Sj ks outs)):iV (ks.map Q1++[Q2]):=λx h=>match h with
 | []=>match Yo (ud ks x).2 l with
  |some (c,g)=>.chk (c (ud ks x).1) (.ok (vX outs (g (ud ks x).1),[]))
  |none=>.err
 |_=>.err
def VZ(ks outs:List Sh)(l:List (Sj ks outs)):zV:=bh (ks.map Q1++[Q2]) (Pe ks outs l)
theorem L9{P:Program}{gl:Nat->AV}{E:bW}{k:FuncId}{f:Func}{ks outs:List Sh}{l:List (Sj ks outs)}(hf:zI E.P k f (ks.length+1))
  (h:∀j c g,(j,c,g)∈l->∀x,c x=Q3->∀C:fh,(∀id,C.ρ0 id=Q2)->Reach E C k (bw f) (bd f.ntmps (jx (ks.map Q1) x++[.clo (.func j) [] []]) []) (λr h=>aM h outs r=Q1 (g x))) (qp:E.P=P:=by rfl) (qg:E.gl=gl:=by rfl):oZ P gl k (VZ ks outs l):=by
 subst qp qg;refine dR (by simpa using hf) λx h0 res hx C hC=>?_
 unfold Pe at hx;split at hx
 ·split at hx
  ·rename_i c g hal;obtain⟨j,hv,hm⟩:=JG hal;simp only[Tr.val]at hx;split at hx
   ·rename_i hc;simp only[bB]at hx;subst hx;rw[BL,hv];exact Reach.plain (λid=>hC id (by simp)) (h j c g hm _ hc C (λid=>hC id (by simp)))
   ·simp at hx
  ·simp at hx
 ·simp at hx
inductive CP where
 |d (s:Sh)
 |nil
 |vec (e:Sh)
@[reducible] def zn:List CP->Type
 |[]=>Unit
 |.d s::r=>Sem s×zn r
 |.nil::r=>zn r
 |.vec e::r=>List (Sem e)×zn r
def eO:(n:Nat)->(ps:List CP)->zn ps->List AV
 |_,[],_=>[]
 |n,.d s::r,y=>zq s y.1++eO n r y.2
 |n,.nil::r,y=>.nils::eO n r y
 |n,.vec _::r,y=>.vec n::eO (n+1) r y.2
def gv:(ps:List CP)->zn ps->List AO
 |[],_=>[]
 |.d _::r,y=>gv r y.2
 |.nil::r,y=>gv r y
 |.vec e::r,y=>.vec e y.1::gv r y.2
def ar(ps:List CP)(y:zn ps):List AO:=.box (eO 1 ps y)::gv ps y
def aU:List CP->Nat
 |[]=>0
 |.vec _::r=>aU r+1
 |_::r=>aU r
theorem bL:∀(ps:List CP)(y:zn ps),(gv ps y).length=aU ps
 |[],_=>rfl
 |.d _::r,y=>bL r y.2
 |.nil::r,y=>bL r y
 |.vec _::r,y=>congrArg (·+1) (bL r y.2)
def cz(hp:Nat->AO):(n:Nat)->(ps:List CP)->List AV->Option (zn ps)
 |_,[],[]=>Q1 ()
 | n,.d s::r,cs=>match cP (fun _=>.dead) s cs with
  | some (x,cs')=>match cz hp n r cs' with
   |some y=>Q1 (x,y)
   |none=>Q2
  |none=>Q2
 |n,.nil::r,.nils::cs=>cz hp n r cs
 | n,.vec e::r,.vec id::cs=>if id=n then match hp id with
   | .vec e' l=>if h:e'=e then match cz hp (n+1) r cs with
     |some y=>Q1 (h▸l,y)
     |none=>Q2
    else Q2
   |_=>Q2
  else Q2
 |_,_,_=>Q2
section
variable {w:World} {U:Nat->Prop} {ρ:Nat->Option Value}
theorem du.app{a b:List AV}{va vb:List Value}(h1:du w U ρ a va)(h2:du w U ρ b vb):du w U ρ (a++b) (va++vb) where
 len:=by simp[h1.len,h2.len]
 rv:=by
  intro j c v hc hv;by_cases hj:j<a.length
  ·rw[mG hj]at hc;rw[mG (by rw[<-h1.len];exact hj)]at hv;exact h1.rv j c v hc hv
  ·rw[nG ow]at hc;rw[nG (by rw[<-h1.len];omega),<-h1.len]at hv;exact h2.rv _ c v hc hv
theorem du.tail{a:AV}{l:List AV}{v:Value}{vs:List Value}(h:du w U ρ (a::l) (v::vs)):du w U ρ l vs:=
 ⟨by have:=h.len;simpa using this,λj c x hc hx=>h.rv (j+1) c x (by simpa using hc) (by simpa using hx)⟩
theorem du.consH{a:AV}{l:List AV}{v:Value}{vs:List Value}(h1:Rv w U ρ a v)(h2:du w U ρ l vs):du w U ρ (a::l) (v::vs) where
 len:=by simp[h2.len]
 rv:=by
  intro j c x hc hx;cases j with
  |zero=>simp at hc hx;subst hc;subst hx;exact h1
  |succ j=>exact h2.rv j c x (by simpa using hc) (by simpa using hx)
theorem fI{hp:Nat->AO}:∀(ps:List CP)(n:Nat)(cs:List AV)(y:zn ps)(vals:List Value),cz hp n ps cs=Q1 y->du w U ρ cs vals->
  du w U ρ (eO n ps y) vals/\∀(j:Nat) o,(gv ps y)[j]?=Q1 o->hp (n+j)=o
 |[],n,[],y,vals,h,hr=>⟨hr,by simp[gv]⟩
 |[],n,_::_,y,vals,h,hr=>by simp[cz]at h
 | .d s::r,n,cs,y,vals,h,hr=>by
  unfold cz at h;split at h
  ·rename_i x cs' hi;split at h
   ·rename_i y' hy;cases h
    have hk:=nV (w:=w) (U:=U) (U':=U) (ρ:=ρ) (hp:=λ_=>.dead) (λ_ h=>h) s cs x cs' (λj=>vals.getD j undef) hi
     (λj c hc=>by
      have hlt:j<vals.length:=by rw[<-hr.len];exact(dh.1 hc).1
      have:=hr.rv j c vals[j] hc (zQ hlt);simpa[List.getD,zQ hlt]using this)
     (λid _=>⟨trivial,λb hb=>by simp[aj,AO.owns]at hb⟩)
    obtain⟨k1,k2,k3⟩:=hk;have hdrop:du w U ρ cs' (vals.drop s.size):=by
     refine⟨by rw[k2];simp[hr.len],λj c v hc hv=>?_⟩;rw[k2,E9]at hc;rw[E9]at hv;exact hr.rv _ c v hc hv
    obtain⟨i1,i2⟩:=fI r n cs' y' (vals.drop s.size) hy hdrop;refine⟨?_,i2⟩;have htake:du w U ρ (zq s x) (vals.take s.size):=by
     refine⟨by rw[zW];have:=hr.len;simp;omega,λj c v hc hv=>?_⟩;have hj:j<s.size:=by rw[<-zW s x];exact(dh.1 hc).1
     rw[List.getElem?_take,if_pos hj]at hv;have:=k3 j c hc;simpa[List.getD,hv]using this
    have:=htake.app i1;rw[List.take_append_drop]at this;exact this
   ·cases h
  ·cases h
 | .nil::r,n,.nils::cs,y,vals,h,hr=>by
  match vals,hr with
  |[],hr=>have:=hr.len;simp at this
  | v::vs,hr=>
   have hv:=hr.rv 0 _ v rfl rfl;obtain⟨i1,i2⟩:=fI r n cs y vs h hr.tail;exact⟨du.consH hv i1,i2⟩
 | .vec e::r,n,.vec id::cs,y,vals,h,hr=>by
  match vals,hr with
  |[],hr=>have:=hr.len;simp at this
  | v :: vs,hr=>
   have hv:=hr.rv 0 _ v rfl rfl;unfold cz at h;split at h
   ·rename_i hid;subst hid;split at h
    ·rename_i e' l ho;split at h
     ·rename_i he;subst he;split at h
      ·rename_i y' hy;cases h;obtain⟨i1,i2⟩:=fI r (id+1) cs y' vs hy hr.tail;refine⟨du.consH hv i1,λj o hj=>?_⟩;cases j with
       |zero=>simp[gv]at hj;subst hj;exact ho
       | succ j=>
        have:=i2 j o (by simpa[gv]using hj);rw[<-this];congr 1;omega
      ·cases h
     ·cases h
    ·cases h
   ·cases h
 |.nil::_,_,[],_,_,h,_=>by simp[cz]at h
 |.vec _::_,_,[],_,_,h,_=>by simp[cz]at h
 |.nil::_,_,.any::_,_,_,h,_|.nil::_,_,.kb _::_,_,_,h,_|.nil::_,_,.bool _::_,_,_,h,_|.nil::_,_,.int _ _::_,_,_,h,_|.nil::_,_,.str _::_,_,_,h,_
 |.nil::_,_,.sl _ _::_,_,_,h,_|.nil::_,_,.vec _::_,_,_,h,_|.nil::_,_,.ptr _ _::_,_,_,h,_|.nil::_,_,.vptr _ _ _ _::_,_,_,h,_|.nil::_,_,.eptr _ _::_,_,_,h,_
 |.nil::_,_,.nilp::_,_,_,h,_|.nil::_,_,.agg _::_,_,_,h,_|.nil::_,_,.tup _::_,_,_,h,_|.nil::_,_,.clo _ _ _::_,_,_,h,_|.nil::_,_,.nilf::_,_,_,h,_
 |.nil::_,_,.mp _::_,_,_,h,_|.nil::_,_,.ifc _::_,_,_,h,_|.nil::_,_,.tab _ _::_,_,_,h,_|.nil::_,_,.gint::_,_,_,h,_=>by simp[cz]at h
 |.vec _::_,_,.any::_,_,_,h,_|.vec _::_,_,.kb _::_,_,_,h,_|.vec _::_,_,.bool _::_,_,_,h,_|.vec _::_,_,.int _ _::_,_,_,h,_|.vec _::_,_,.str _::_,_,_,h,_
 |.vec _::_,_,.sl _ _::_,_,_,h,_|.vec _::_,_,.nils::_,_,_,h,_|.vec _::_,_,.ptr _ _::_,_,_,h,_|.vec _::_,_,.vptr _ _ _ _::_,_,_,h,_|.vec _::_,_,.eptr _ _::_,_,_,h,_
 |.vec _::_,_,.nilp::_,_,_,h,_|.vec _::_,_,.agg _::_,_,_,h,_|.vec _::_,_,.tup _::_,_,_,h,_|.vec _::_,_,.clo _ _ _::_,_,_,h,_|.vec _::_,_,.nilf::_,_,_,h,_
 |.vec _::_,_,.mp _::_,_,_,h,_|.vec _::_,_,.ifc _::_,_,_,h,_|.vec _::_,_,.tab _ _::_,_,_,h,_|.vec _::_,_,.gint::_,_,_,h,_=>by simp[cz]at h
end
theorem jF.box{C:fh}{w:World}{U:Nat->Prop}{ρ:Nat->Option Value}{cs:List AV}{os:List AO}{ps:List CP}{y:zn ps}(hH:jF C w U ρ (λj=>((Qa cs::os).getD j .dead)))(hl:os.length=aU ps)
  (hm:cz (j5 (.box cs::os)) 1 ps cs=Q1 y):jF C w U ρ (λj=>(ar ps y).getD j .dead):=by
 have h0:bA w U ρ 0 (.box cs):=hH.ob 0;obtain⟨b,T,vals,h1,h2,h3,h4,h5⟩:=h0;obtain⟨k1,k2⟩:=fI ps 1 cs y vals.toList hm h4;have hobj:∀id,id≠0->(ar ps y).getD id .dead=(Qa cs::os).getD id .dead:=by
  intro id hid;obtain⟨j,rfl⟩:∃j,id=j+1:=⟨id-1,ow⟩;by_cases hj:j<(gv ps y).length
  ·have:=k2 j _ (zQ hj);unfold ar;simp only[BE];rw[ba,zQ hj];simp only[j5,oO 1 j,BE]at this;simpa using this.symm
  ·have h7:os.length<=j:=by rw[bL]at hj;omega
   unfold ar;simp only[BE];rw[ba,ba,fy ow,fy h7]
 have hown:∀id b,aj ρ id ((ar ps y).getD id .dead) b->aj ρ id ((Qa cs::os).getD id .dead) b:=by
  intro id b' ho;by_cases hid:id=0
  ·subst hid;obtain⟨_,v,hv,hb⟩:=ho;exact⟨rfl,v,hv,hb⟩
  ·rw[hobj id hid]at ho;exact ho
 refine⟨λid=>?_,λid1 id2 b' o1 o2=>hH.inj id1 id2 b' (hown _ _ o1) (hown _ _ o2),λid b' o=>hH.blk id b' (hown _ _ o)⟩;by_cases hid:id=0
 ·subst hid;exact⟨b,T,vals,h1,h2,h3,k1,h5⟩
 ·show bA w U ρ id ((ar ps y).getD id .dead);rw[hobj id hid];exact hH.ob id
def th(ps:List CP)(outs:List Sh)(r:AV)(h:List AO):Option (zx (outs.map Q1)×zn ps):=match h with
 | .box cs::os=>if os.length=aU ps then match aM [] outs r,cz (j5 (.box cs::os)) 1 ps cs with
   |some a,Q1 y=>Q1 (a,y)
   |_,_=>Q2
  else Q2
 |_=>Q2
def zj9(ps:List CP)(ks outs:List Sh)(ps':List CP)(c:zn ps->zx (ks.map Q1)->Bool)(g:zn ps->zx (ks.map Q1)->zx (outs.map Q1)×zn ps'):iV (Q2::ks.map Q1):=λx h=>match x.1,h with
 | .ptr 0 0,.box cs::os=>if os.length=aU ps then match cz (j5 (.box cs::os)) 1 ps cs with
   |some y=>.chk (c y x.2) (.ok (vX outs (g y x.2).1,ar ps' (g y x.2).2))
   |none=>.err
  else .err
 |_,_=>.err
def se(ps:List CP)(ks outs:List Sh)(ps':List CP)(c:zn ps->zx (ks.map Q1)->Bool)(g:zn ps->zx (ks.map Q1)->zx (outs.map Q1)×zn ps'):zV:=bh (Q2::ks.map Q1) (zj9 ps ks outs ps' c g)
theorem sC(ps:List CP)(y:zn ps):(ar ps y).length=aU ps+1:=by
 simp[ar,bL]
theorem GL{w:World}{U:Nat->Prop}{ρ:Nat->Option Value}{outs:List Sh}{r:AV}{y:zx (outs.map Q1)}{v:Value}(h:aM [] outs r=Q1 y)(hr:Rv w U ρ r v):Rv w U ρ (vX outs y) v:=by
 have hob:∀id,bA w U ρ id (j5 [] id)/\∀b,aj ρ id (j5 [] id) b->¬U b:=λid=>⟨by simp[j5,bA],λb hb=>by simp[j5,aj,AO.owns]at hb⟩
 have htup:∀(outs:List Sh)(y:zx (outs.map Q1))(rs:List AV),lY (j5 []) (λi=>i) (outs.map Q1) rs=Q1 y->Rv w U ρ (.tup rs) v->Rv w U ρ (.tup (jx (outs.map Q1) y)) v:=by
  intro outs y rs hy hrv;cases hrv with
  |tup _ vs hl hr2=>
  have:=(jO (w:=w) (U:=U) (ρ:=ρ) (U':=U) (ρ':=ρ) (hp:=j5 []) (f:=λi=>i) (λb hb=>hb) (outs.map Q1) rs vs _ (pW outs rs y hy) ⟨hl,hr2⟩ (λid _=>hob id)
   (λid _=>rfl)).1
  simp only[pq,uk,zF,if_false,List.map_id']at this;exact .tup _ vs this.len this.rv
 match outs,y,h with
 | [s],y,h=>
  simp only[aM]at h;split at h
  ·rename_i x hx;cases h;exact BZ hx hr (λb hb=>hb) (λid _=>hob id)
  ·cases h
 | [],y,h=>
  simp only[aM]at h;cases r with
  |tup rs=>exact htup [] y _ h hr
  |_=>cases h
 | s1::s2::ss,y,h=>
  simp only[aM]at h;cases r with
  |tup rs=>exact htup _ y _ h hr
  |_=>cases h
theorem Ye{P:Program}{gl:Nat->AV}{E:bW}{k:FuncId}{f:Func}{ps:List CP}{ks outs:List Sh}{ps':List CP}{c:zn ps->zx (ks.map some)->Bool}{g:zn ps->zx (ks.map some)->zx (outs.map some)×zn ps'}(hf:zI E.P k f (ks.length+1))
  (h:∀y x,c y x=Q3->∀C:fh,(∀id,aU ps+1<=id->C.ρ0 id=Q2)->Reach E C k (bw f) (bd f.ntmps (.ptr 0 0::jx (ks.map Q1) x) (ar ps y)) (λr h=>th ps' outs r h=Q1 (g y x))) (qp:E.P=P:=by rfl) (qg:E.gl=gl:=by rfl):
  oZ P gl k (se ps ks outs ps' c g):=by
 subst qp qg;refine dR (by simpa using hf) λx h0 res hx C hC=>?_
 obtain⟨x0,x⟩:=x;unfold zj9 at hx;simp only at hx;split at hx
 ·rename_i cs os;split at hx
  ·rename_i hos;split at hx
   ·rename_i y hy;simp only[Tr.val]at hx;split at hx
    ·rename_i hc;simp only[bB]at hx;subst hx;have hR:=h y x hc C (λid hid=>hC id (by simpa[hos]using hid));intro b cs' a w U ρ h1 h2 hcn hW;have hH:jF C w U ρ (λj=>((Qa cs::os).getD j .dead)):=hcn.hp
     have hcn':Cn C (bd f.ntmps (.ptr 0 0::jx (ks.map Q1) x) (ar ps y)) a w U ρ:=
      ⟨hcn.tm,hH.box hos hy,λid hid=>hcn.new id (by have hid:(ar ps y).length<=id:=hid;rw[sC]at hid;simpa[bd,hos]using hid),hcn.df,hcn.r0⟩
     obtain⟨e,w',fr,⟨v,r,h',U',ρ',he,hq,hrv,hH',hnew,hr0,hWd⟩,hcm,hf',hl⟩:=hR b cs' a w U ρ h1 h2 hcn' hW;unfold th at hq;split at hq
     ·rename_i cs2 os2;split at hq
      ·rename_i hos2;split at hq
       ·rename_i a' y' ha' hy';simp only[bB]at hq;refine⟨e,w',fr,⟨v,_,_,U',ρ',he,by rw[<-hq],GL ha' hrv,hH'.box hos2 hy',λid hid=>hnew id (by rw[sC]at hid;simpa[hos2]using hid),hr0,hWd⟩,hcm,hf',hl⟩
       ·cases hq
      ·cases hq
     ·cases hq
    ·simp at hx
   ·simp at hx
  ·simp at hx
 ·simp at hx
def uW(E:bW)(n0:Nat)(keep:Nat->aN)(f:Func)(gas:Nat):Nat->List Item->St->Option (AV×List AO)
 |0,_,_=>Q2
 | n+1,K,st=>match (run E n0 keep f.results.toList gas K st).val with
  |some (.ret v h)=>Q1 (v,h)
  |some (.head _ K' st')=>uW E n0 keep f gas n K' st'
  |_=>Q2
theorem pR{E:bW}{C:fh}{k:FuncId}{f:Func}{Q:AV->List AO->Prop}{m n0:Nat}(hE:zt E)(hf:zI E.P k f m)(hC:∀id,n0<=id->C.ρ0 id=Q2){keep:Nat->aN}{gas:Nat}:
  ∀(n:Nat)(K:List Item)(st:St)(r:AV×List AO),uW E n0 keep f gas n K st=Q1 r->Q r.1 r.2->Reach E C k K st Q
 |0,_,_,_,h,_=>by cases h
 | n+1,K,st,r,h,hQ=>by
  unfold uW at h;split at h
  ·rename_i v h' hv;cases h;exact ng hE hf hC hv hQ
  ·rename_i j K' st' hv;exact ng hE hf hC hv (pR hE hf hC n K' st' r h hQ)
  ·cases h
def cm:(outs:List Sh)->zx (outs.map Q1)
 |[]=>()
 |s::r=>(zj s,cm r)
def fJ:(ps:List CP)->zn ps
 |[]=>()
 |.d s::r=>(zj s,fJ r)
 |.nil::r=>fJ r
 |.vec _::r=>([],fJ r)
def bF:List Nat->(ps:List CP)->zn ps->List AV
 |_,[],_=>[]
 |n,.d s::r,y=>zq s y.1++bF n r y.2
 |n,.nil::r,y=>.nils::bF n r y
 |n,.vec _::r,y=>.vec (n.headD 0)::bF n.tail r y.2
def itO(E:bW)(keep:Nat->aN)(f:Func)(gas n:Nat)(ks outs:List Sh)(x:zx (ks.map Q1)):Option (zx (outs.map Q1)):=
 (uW E 0 keep f gas n (bw f) (bd f.ntmps (jx (ks.map Q1) x) [])).bind λr=>aM r.2 outs r.1
def Nl(ks outs:List Sh)(g:zx (ks.map Q1)->Option (zx (outs.map Q1))):zV:=zN ks outs (λx=>(g x).isSome) λx=>(g x).getD (cm outs)
theorem zeH{P:Program}{gl:Nat->AV}{E:bW}{k:FuncId}{f:Func}{ks outs:List Sh}{keep:Nat->aN}{gas n:Nat}(hE:zt E)(hf:zI E.P k f ks.length)(qp:E.P=P:=by rfl)(qg:E.gl=gl:=by rfl):oZ P gl k (Nl ks outs (itO E keep f gas n ks outs)):=by
 subst qp qg;refine aJ hf λx hc C hC=>?_
 rw[Option.isSome_iff_exists]at hc;obtain⟨y,hy⟩:=hc;rw[hy];unfold itO at hy;rw[gm]at hy;obtain⟨r,h1,h2⟩:=hy;exact pR hE hf (λid _=>hC id) n _ _ r h1 h2
def itB(E:bW)(keep:Nat->aN)(f:Func)(gas n:Nat)(ps:List CP)(ks outs:List Sh)(ps':List CP)(y:zn ps)(x:zx (ks.map Q1)):Option (zx (outs.map Q1)×zn ps'):=
 (uW E (aU ps+1) keep f gas n (bw f) (bd f.ntmps (.ptr 0 0::jx (ks.map Q1) x) (ar ps y))).bind λr=>th ps' outs r.1 r.2
def zn8(ps:List CP)(ks outs:List Sh)(ps':List CP)(g:zn ps->zx (ks.map Q1)->Option (zx (outs.map Q1)×zn ps')):zV:=
 se ps ks outs ps' (λy x=>(g y x).isSome) λy x=>(g y x).getD (cm outs,fJ ps')
theorem Yf{P:Program}{gl:Nat->AV}{E:bW}{k:FuncId}{f:Func}{ps:List CP}{ks outs:List Sh}{ps':List CP}{keep:Nat->aN}{gas n:Nat}(hE:zt E)(hf:zI E.P k f (ks.length+1))(qp:E.P=P:=by rfl)(qg:E.gl=gl:=by rfl):oZ P gl k (zn8 ps ks outs ps' (itB E keep f gas n ps ks outs ps')):=by
 subst qp qg;refine Ye hf λy x hc C hC=>?_
 rw[Option.isSome_iff_exists]at hc;obtain⟨z,hz⟩:=hc;rw[hz];unfold itB at hz;rw[gm]at hz;obtain⟨r,h1,h2⟩:=hz;exact pR hE hf hC n _ _ r h1 h2
theorem Ma{P:Program}{gl:Nat->AV}{k:FuncId}{ks outs:List Sh}{g:zx (ks.map Q1)->Option (zx (outs.map Q1))}{c:zx (ks.map Q1)->Bool}{g':zx (ks.map Q1)->zx (outs.map Q1)}(h:oZ P gl k (Nl ks outs g))(hg:∀x,c x=Q3->g x=Q1 (g' x)):oZ P gl k (zN ks outs c g'):=by
 refine Av (ι:=Unit) (Gs:=λ_=>eR ks outs (λx=>(g x).isSome) λx=>(g x).getD (cm outs)) (λ_=>h) λx h0 res hv=>⟨(),?_⟩
 unfold eR at hv⊢;split at hv
 ·simp only[Tr.val]at hv⊢;split at hv
  ·rename_i hc;simp only[hg x hc,Fa,if_true,dp];exact hv
  ·simp at hv
 ·simp at hv
theorem g6{P:Program}{gl:Nat->AV}{k:FuncId}{ks outs:List Sh}{g:zx (ks.map Q1)->Option (zx (outs.map Q1))}{g':zx (ks.map Q1)->zx (outs.map Q1)}(h:oZ P gl k (Nl ks outs g))(hg:∀x,g x=Q1 (g' x)):oZ P gl k (aG ks outs g'):=
 Oc (Ma h λx _=>hg x)
theorem Yg{P:Program}{gl:Nat->AV}{E:bW}{k:FuncId}{f:Func}{ks outs:List Sh}{keep:Nat->aN}{gas n:Nat}{c:zx (ks.map Q1)->Bool}{g:zx (ks.map Q1)->zx (outs.map Q1)}(hE:zt E)(hf:zI E.P k f ks.length)
  (hc:∀x,c x=(itO E keep f gas n ks outs x).isSome) (hg:∀x,g x=(itO E keep f gas n ks outs x).getD (cm outs)) (qp:E.P=P:=by rfl) (qg:E.gl=gl:=by rfl):oZ P gl k (zN ks outs c g):=by
 subst qp qg;obtain rfl:c=λx=>(itO E keep f gas n ks outs x).isSome:=funext hc
 obtain rfl:g=λx=>(itO E keep f gas n ks outs x).getD (cm outs):=funext hg
 exact zeH hE hf
theorem Sz{P:Program}{gl:Nat->AV}{E:bW}{k:FuncId}{f:Func}{ps:List CP}{ks outs:List Sh}{ps':List CP}{keep:Nat->aN}{gas n:Nat}{c:zn ps->zx (ks.map Q1)->Bool}{g:zn ps->zx (ks.map Q1)->zx (outs.map Q1)×zn ps'}(hE:zt E)(hf:zI E.P k f (ks.length+1))
  (hc:∀y x,c y x=(itB E keep f gas n ps ks outs ps' y x).isSome) (hg:∀y x,g y x=(itB E keep f gas n ps ks outs ps' y x).getD (cm outs,fJ ps')) (qp:E.P=P:=by rfl) (qg:E.gl=gl:=by rfl):oZ P gl k (se ps ks outs ps' c g):=by
 subst qp qg;obtain rfl:c=λy x=>(itB E keep f gas n ps ks outs ps' y x).isSome:=funext λy=>funext λx=>hc y x
 obtain rfl:g=λy x=>(itB E keep f gas n ps ks outs ps' y x).getD (cm outs,fJ ps'):=funext λy=>funext λx=>hg y x
 exact Yf hE hf
abbrev az:=AV×List AO
def Tr.map{α β:Type}(f:α->β):Tr α->Tr β
 |.err=>.err
 |.chk c t=>.chk c (t.map f)
 |.br c t e=>.br c (t.map f) (e.map f)
 |.ok a=>.ok (f a)
theorem Tr.val_map{α β:Type}(f:α->β):∀t:Tr α,(t.map f).val=t.val.map f
 |.err=>rfl
 |.chk c t=>by simp only[Tr.map,Tr.val,val_map f t];split<;>rfl
 |.br c t e=>by simp only[Tr.map,Tr.val,val_map f t,val_map f e];split<;>rfl
 |.ok _=>rfl
abbrev Tr.to{σ:Type}(s:σ):Tr (σ⊕az):=.ok (.inl s)
abbrev Tr.re{σ:Type}(v:AV)(h:List AO):Tr (σ⊕az):=.ok (.inr (v,h))
def da{σ:Type}(t:σ->Tr (σ⊕az)):Nat->σ->Option az
 |0,_=>Q2
 | n+1,s=>match (t s).val with
  |some (.inl s')=>da t n s'
  |some (.inr r)=>Q1 r
  |none=>Q2
def de{σ:Type}(t:σ->Tr (σ⊕az))(n:Nat)(i:Tr (σ⊕az)):Option az:=match i.val with
 |some (.inl s)=>da t n s
 |some (.inr r)=>Q1 r
 |none=>Q2
def lf{σ:Type}(f:Func)(e:σ->Nat×St):σ⊕az->zD
 |.inl s=>.head (e s).1 (ac f (e s).1) (e s).2
 |.inr r=>.ret r.1 r.2
def e0:Empty->Nat×St:=λx=>nomatch x
def t0:Empty->Tr (Empty⊕az):=λx=>nomatch x
section
variable {σ:Type} {E:bW} {n0:Nat} {keep:Nat->aN} {f:Func} {gas:Nat} {e:σ->Nat×St} {t:σ->Tr (σ⊕az)}
theorem OP(hon:∀s,run E n0 keep f.results.toList gas (ac f (e s).1) (e s).2=(t s).map (lf f e)):∀(n:Nat)(s:σ),uW E n0 keep f gas n (ac f (e s).1) (e s).2=da t n s
 |0,_=>rfl
 | n+1,s=>by
  rw[uW,hon s,Tr.val_map,da];cases(t s).val with
  |none=>rfl
  | some l=>
   cases l with
   |inl s'=>exact OP hon n s'
   |inr r=>rfl
theorem nW(hon:∀s,run E n0 keep f.results.toList gas (ac f (e s).1) (e s).2=(t s).map (lf f e)){K:List Item}{st:St}{i:Tr (σ⊕az)}(hgo:run E n0 keep f.results.toList gas K st=i.map (lf f e))(n:Nat):uW E n0 keep f gas (n+1) K st=de t n i:=by
 rw[uW,hgo,Tr.val_map,de];cases i.val with
 |none=>rfl
 | some l=>
  cases l with
  |inl s=>exact OP hon n s
  |inr r=>rfl
end
def ah{σ:Type}(outs:List Sh)(t:σ->Tr (σ⊕az))(n:Nat)(i:Tr (σ⊕az)):Option (zx (outs.map Q1)):=(de t n i).bind λr=>aM r.2 outs r.1
theorem kK{P:Program}{gl:Nat->AV}{σ:Type}{E:bW}{k:FuncId}{f:Func}{ks outs:List Sh}{keep:Nat->aN}{gas n:Nat}{e:σ->Nat×St}{t:σ->Tr (σ⊕az)}{i:zx (ks.map Q1)->Tr (σ⊕az)}{c:zx (ks.map Q1)->Bool}{g:zx (ks.map Q1)->zx (outs.map Q1)}
  (hE:zt E) (hf:zI E.P k f ks.length) (hgo:∀x,run E 0 keep f.results.toList gas (bw f) (bd f.ntmps (jx (ks.map Q1) x) [])=(i x).map (lf f e))
  (hon:∀s,run E 0 keep f.results.toList gas (ac f (e s).1) (e s).2=(t s).map (lf f e))
  (hc:∀x,c x=(ah outs t n (i x)).isSome) (hg:∀x,g x=(ah outs t n (i x)).getD (cm outs)) (qp:E.P=P:=by rfl) (qg:E.gl=gl:=by rfl):oZ P gl k (zN ks outs c g):=by
 subst qp qg;have h:∀x,itO E keep f gas (n+1) ks outs x=ah outs t n (i x):=by
  intro x;unfold itO ah;rw[nW hon (hgo x)]
 exact Yg (n:=n+1) hE hf (λx=>by rw[h,hc]) (λx=>by rw[h,hg])
theorem Z6{σ:Type}{E:bW}{C:fh}{k:FuncId}{f:Func}{outs:List Sh}{m n0 n gas:Nat}{keep:Nat->aN}{e:σ->Nat×St}{t:σ->Tr (σ⊕az)}{i:Tr (σ⊕az)}{K:List Item}{st:St}{y:zx (outs.map Q1)}(hE:zt E)(hf:zI E.P k f m)(hC:∀id,n0<=id->C.ρ0 id=Q2)
  (hgo:run E n0 keep f.results.toList gas K st=i.map (lf f e)) (hon:∀s,run E n0 keep f.results.toList gas (ac f (e s).1) (e s).2=(t s).map (lf f e)) (h:ah outs t n i=Q1 y):Reach E C k K st (λr h=>aM h outs r=Q1 y):=by
 unfold ah at h;rw[gm]at h;obtain⟨r,h1,h2⟩:=h;rw[<-nW hon hgo n]at h1;exact pR hE hf hC (n+1) _ _ r h1 h2
abbrev k0:Nat->aN:=λ_=>{ }
abbrev lW:List (Nat×List Nat)->Nat->aN
 |[],_=>{ }
 |p::r,j=>if j=p.1 then{slots:=p.2}else lW r j
def o1{a:Sh}(o:Option (zx [Q1 a])):Sem a:=(o.getD (cm [a])).1
def o2{a b:Sh}(o:Option (zx [Q1 a,Q1 b])):Sem a×Sem b:=((o.getD (cm [a,b])).1,(o.getD (cm [a,b])).2.1)
def o3{a b c:Sh}(o:Option (zx [Q1 a,Q1 b,Q1 c])):Sem a×Sem b×Sem c:=((o.getD (cm [a,b,c])).1,(o.getD (cm [a,b,c])).2.1,(o.getD (cm [a,b,c])).2.2.1)
def FT(ks outs:List Sh)(o:zx (ks.map Q1)->Option (zx (outs.map Q1))):zV:=zN ks outs (λx=>(o x).isSome) λx=>(o x).getD (cm outs)
theorem zt.T1{P:Program}{gl:Nat->AV}{σ:Type}{E:bW}{k:FuncId}{f:Func}{ks outs:List Sh}{keep:Nat->aN}{n:Nat}{e:σ->Nat×St}{t:σ->Tr (σ⊕az)}{i:zx (ks.map Q1)->Tr (σ⊕az)}(hE:zt E)(gas:Nat:=400)
  (hf:(E.P.funcs[k]?,f.name=="runtime.NumGoroutine",f.body.isNone,Q0 (ks.length<=f.ntmps))=(Q1 f,Q4,Q4,Q3):=by kernel_rfl)
  (hgo:∀x,run E 0 keep f.results.toList gas (bw f) (bd f.ntmps (jx (ks.map Q1) x) [])=(i x).map (lf f e):=by intro x;kernel_rfl)
  (hon:∀s,run E 0 keep f.results.toList gas (ac f (e s).1) (e s).2=(t s).map (lf f e):=by intro s;cases s<;>kernel_rfl) (qp:E.P=P:=by rfl) (qg:E.gl=gl:=by rfl):oZ P gl k (FT ks outs λx=>ah outs t n (i x)):=by
 subst qp qg;exact kK hE (bR hf) hgo hon (λ_=>rfl) λ_=>rfl
theorem VG(E:bW)(n0:Nat)(keep:Nat->aN)(f:Func)(gas:Nat):∀s,run E n0 keep f.results.toList gas (ac f (e0 s).1) (e0 s).2=(t0 s).map (lf f e0):=λs=>nomatch s
def km{σ:Type}(outs:List Sh)(ps':List CP)(t:σ->Tr (σ⊕az))(n:Nat)(i:Tr (σ⊕az)):Option (zx (outs.map Q1)×zn ps'):=(de t n i).bind λr=>th ps' outs r.1 r.2
theorem jW{P:Program}{gl:Nat->AV}{σ:Type}{E:bW}{k:FuncId}{f:Func}{ps:List CP}{ks outs:List Sh}{ps':List CP}{keep:Nat->aN}{gas n:Nat}{e:σ->Nat×St}{t:σ->Tr (σ⊕az)}{i:zn ps->zx (ks.map Q1)->Tr (σ⊕az)}{c:zn ps->zx (ks.map Q1)->Bool}{g:zn ps->zx (ks.map Q1)->zx (outs.map Q1)×zn ps'}
  (hE:zt E) (hf:zI E.P k f (ks.length+1)) (hgo:∀y x,run E (aU ps+1) keep f.results.toList gas (bw f) (bd f.ntmps (.ptr 0 0::jx (ks.map Q1) x) (ar ps y))=(i y x).map (lf f e))
  (hon:∀s,run E (aU ps+1) keep f.results.toList gas (ac f (e s).1) (e s).2=(t s).map (lf f e))
  (hc:∀y x,c y x=(km outs ps' t n (i y x)).isSome) (hg:∀y x,g y x=(km outs ps' t n (i y x)).getD (cm outs,fJ ps')) (qp:E.P=P:=by rfl) (qg:E.gl=gl:=by rfl):oZ P gl k (se ps ks outs ps' c g):=by
 subst qp qg;have h:∀y x,itB E keep f gas (n+1) ps ks outs ps' y x=km outs ps' t n (i y x):=by
  intro y x;unfold itB km;rw[nW hon (hgo y x)]
 exact Sz (n:=n+1) hE hf (λy x=>by rw[h,hc]) (λy x=>by rw[h,hg])
open Tr (chk br re)
theorem Oi(hp:Nat->AO)(e:Sh)(l:List (Sem e)):wI hp e (.sl e l)=Q1 l:=by
 simp[wI]
theorem j6(hp:Nat->AO):∀(s:Sh)(x:Sem s)(r:List AV),cP hp s (zq s x++r)=Q1 (x,r)
 |.unit,_,_=>rfl
 |.bool,_,_=>rfl
 |.int k,n,r=>by simp[zq,cP]
 |.str,_,_=>rfl
 | .sl e,l,r=>by
  show(match wI hp e (.sl e l)with|some l=>Q1 (l,r)|none=>Q2)=_;rw[Oi]
 | .pr a b,x,r=>by
  simp only[zq,cP,BG,j6 hp a,j6 hp b]
 | .expr,e,r=>by
  show uS hp _=_;simp only[zq,List.cons_append,po,uS,Oi];rw[show ze.mk e.op (e.v.1,e.v.2.1,e.v.2.2) e.s e.l=e from ze.eta e]
theorem jz{hp:Nat->AO}:∀(ps:List CP)(n:Nat)(y:zn ps),(∀(j:Nat) o,(gv ps y)[j]?=Q1 o->hp (n+j)=o)->cz hp n ps (eO n ps y)=Q1 y
 |[],_,_,_=>rfl
 | .d s::r,n,y,h=>by
  simp only[eO,cz,j6];rw[jz r n y.2 h]
 | .nil::r,n,y,h=>by
  simp only[eO,cz];exact jz r n y h
 | .vec e::r,n,y,h=>by
  have h0:=h 0 (.vec e y.1) rfl;simp only[yw]at h0;simp only[eO,cz,if_true,h0,dite_true]
  rw[jz r (n+1) y.2 (λj o hj=>by
   have:=h (j+1) o (by simpa[gv]using hj);rw[<-this];congr 1;omega)]
theorem cZ{ps:List CP}{outs:List Sh}{r:AV}{a:zx (outs.map Q1)}(y:zn ps)(h:aM [] outs r=Q1 a):th ps outs r (ar ps y)=Q1 (a,y):=by
 unfold th ar;simp only[bL,if_true,h]
 rw[jz ps 1 y (λj o hj=>by
  unfold j5;rw[oO,BE,ba,hj];rfl)]
section
variable {σ:Type} {t:σ->Tr (σ⊕az)}
theorem dr{β:Type}(N:Nat)(st:β->Nat->σ)(I:β->Nat->Prop)(Φ:az->Prop)(M:Nat)
  (hstep:∀b i,i<N->I b i->(∃b',I b' (i+1)/\(t (st b i)).val=Q1 (.inl (st b' (i+1))))\/∃r,(t (st b i)).val=Q1 (.inr r)/\Φ r)
  (hend:∀b n,I b N->M<=n->∃r,da t n (st b N)=Q1 r/\Φ r):
  ∀(m i:Nat)(b:β)(n:Nat),N-i=m->i<=N->I b i->M+m<=n->∃r,da t n (st b i)=Q1 r/\Φ r
 | 0,i,b,n,hm,hi,hI,hn=>by
  obtain rfl:i=N:=by omega
  exact hend b n hI ow
 | m+1,i,b,n,hm,hi,hI,hn=>by
  obtain⟨n,rfl⟩:∃k,n=k+1:=⟨n-1,ow⟩;rcases hstep b i ow hI with⟨b',hI',h⟩|⟨r,h1,h2⟩
  ·obtain⟨r,h1,h2⟩:=dr N st I Φ M hstep hend m (i+1) b' n ow ow hI' ow;exact⟨r,by rw[da,h];exact h1,h2⟩
  ·exact⟨r,by rw[da,h1],h2⟩
theorem cL{n:Nat}{s:σ}:da t (n+1) s=match(t s).val with
  |some (.inl s')=>da t n s'
  |some (.inr r)=>Q1 r
  |none=>Q2:=rfl
end
theorem jF.cells{C:fh}{w:World}{U:Nat->Prop}{ρ:Nat->Option Value}{hp:Nat->AO}{k:Nat}{cs cs':List AV}(hH:jF C w U ρ hp)(hk:hp k=.box cs)
  (hr:∀vals,du w U ρ cs vals->du w U ρ cs' vals):jF C w U ρ (λj=>if j=k then .box cs' else hp j):=by
 have hown:∀id b,aj ρ id (if id=k then .box cs' else hp id) b->aj ρ id (hp id) b:=by
  intro id b ho;by_cases hid:id=k
  ·subst hid;rw[if_pos rfl]at ho;rw[hk];obtain⟨_,v,hv,hb⟩:=ho;exact⟨rfl,v,hv,hb⟩
  ·rw[if_neg hid]at ho;exact ho
 refine⟨λid=>?_,λid1 id2 b o1 o2=>hH.inj id1 id2 b (hown _ _ o1) (hown _ _ o2),λid b o=>hH.blk id b (hown _ _ o)⟩;by_cases hid:id=k
 ·subst hid;have h0:=hH.ob id;rw[hk]at h0;obtain⟨b,T,vals,h1,h2,h3,h4,h5⟩:=h0;simp only[if_true];exact⟨b,T,vals,h1,h2,h3,hr _ h4,h5⟩
 ·simp only[if_neg hid];exact hH.ob id
def ch(ps qs:List CP)(y:zn ps)(z:zn qs):List AO:=.box (eO 2 ps y)::.box (eO (2+aU ps) qs z)::(gv ps y++gv qs z)
theorem pC(ps qs:List CP)(y:zn ps)(z:zn qs):(ch ps qs y z).length=aU ps+aU qs+2:=by
 simp[ch,bL]
theorem jF.box2{C:fh}{w:World}{U:Nat->Prop}{ρ:Nat->Option Value}{cs ds:List AV}{os:List AO}{ps qs:List CP}{y:zn ps}{z:zn qs}(hH:jF C w U ρ (λj=>((Qa cs::Qa ds::os).getD j .dead)))(hl:os.length=aU ps+aU qs)
  (hm:cz (j5 (.box cs::.box ds::os)) 2 ps cs=Q1 y) (hm2:cz (j5 (.box cs::.box ds::os)) (2+aU ps) qs ds=Q1 z):jF C w U ρ (λj=>(ch ps qs y z).getD j .dead):=by
 have h1:=hH.cells (k:=0) (cs:=cs) (cs':=eO 2 ps y) rfl (λvals h=>(fI ps 2 cs y vals hm h).1);have h2:=h1.cells (k:=1) (cs:=ds) (cs':=eO (2+aU ps) qs z) rfl (λvals h=>(fI qs _ ds z vals hm2 h).1);obtain⟨b0,T0,v0,_,_,_,r0,_⟩:=hH.ob 0;obtain⟨b1,T1,v1,_,_,_,r1,_⟩:=hH.ob 1;have k1:=(fI ps 2 cs y v0.toList hm r0).2;have k2:=(fI qs _ ds z v1.toList hm2 r1).2;have e:(λj=>(ch ps qs y z).getD j .dead)=λj=>if j=1 then .box (eO (2+aU ps) qs z)else if j=0 then .box (eO 2 ps y)else(Qa cs::Qa ds::os).getD j .dead:=by
  funext j
  match j with
  |0=>rfl
  |1=>rfl
  | j+2=>
   rw[if_neg ow,if_neg ow];simp only[ch,BE];by_cases hj:j<aU ps
   ·have hj':j<(gv ps y).length:=by rw[bL];exact hj
    have:=k1 j _ (zQ hj');simp only[j5,oO 2 j,BE]at this;rw[this,ba,mG hj',zQ hj'];rfl
   ·by_cases hj2:j<aU ps+aU qs
    ·have hj':j-aU ps<(gv qs z).length:=by rw[bL];omega
     have:=k2 (j-aU ps) _ (zQ hj');rw[show 2+aU ps+(j-aU ps)=j+2 by omega]at this;simp only[j5,BE]at this;rw[this,ba,nG (by rw[bL];omega),bL,zQ hj'];rfl
    ·rw[ba,ba,fy (by simp[bL];omega),fy ow]
 rw[e];exact h2
def AC(ps qs:List CP)(outs:List Sh)(r:AV)(h:List AO):Option (zx (outs.map Q1)×zn ps×zn qs):=match h with
 | .box cs::.box ds::os=>if os.length=aU ps+aU qs then match aM [] outs r,cz (j5 (.box cs::.box ds::os)) 2 ps cs,cz (j5 (.box cs::.box ds::os)) (2+aU ps) qs ds with
   |some a,Q1 y,Q1 z=>Q1 (a,y,z)
   |_,_,_=>Q2
  else Q2
 |_=>Q2
def zbA(ps qs:List CP)(ks outs:List Sh)(ps' qs':List CP)(c:zn ps->zn qs->zx (ks.map Q1)->Bool)(g:zn ps->zn qs->zx (ks.map Q1)->zx (outs.map Q1)×zn ps'×zn qs'):iV (Q2::Q2::ks.map Q1):=λx h=>match x.1,x.2.1,h with
 | .ptr 0 0,.ptr 1 0,.box cs::.box ds::os=>if os.length=aU ps+aU qs then match cz (j5 (.box cs::.box ds::os)) 2 ps cs,cz (j5 (.box cs::.box ds::os)) (2+aU ps) qs ds with
   |some y,Q1 z=>.chk (c y z x.2.2) (.ok (vX outs (g y z x.2.2).1,ch ps' qs' (g y z x.2.2).2.1 (g y z x.2.2).2.2))
   |_,_=>.err
  else .err
 |_,_,_=>.err
def S0(ps qs:List CP)(ks outs:List Sh)(ps' qs':List CP)(c:zn ps->zn qs->zx (ks.map Q1)->Bool)(g:zn ps->zn qs->zx (ks.map Q1)->zx (outs.map Q1)×zn ps'×zn qs'):zV:=bh (Q2::Q2::ks.map Q1) (zbA ps qs ks outs ps' qs' c g)
theorem Sy{P:Program}{gl:Nat->AV}{E:bW}{k:FuncId}{f:Func}{ps qs:List CP}{ks outs:List Sh}{ps' qs':List CP}{c:zn ps->zn qs->zx (ks.map some)->Bool}{g:zn ps->zn qs->zx (ks.map some)->zx (outs.map some)×zn ps'×zn qs'}(hf:zI E.P k f (ks.length+2))
  (h:∀y z x,c y z x=Q3->∀C:fh,(∀id,aU ps+aU qs+2<=id->C.ρ0 id=Q2)->Reach E C k (bw f) (bd f.ntmps (.ptr 0 0::.ptr 1 0::jx (ks.map Q1) x) (ch ps qs y z)) (λr h=>AC ps' qs' outs r h=Q1 (g y z x))) (qp:E.P=P:=by rfl) (qg:E.gl=gl:=by rfl):
  oZ P gl k (S0 ps qs ks outs ps' qs' c g):=by
 subst qp qg;refine dR (by simpa using hf) λx h0 res hx C hC=>?_
 obtain⟨x0,x1,x⟩:=x;unfold zbA at hx;simp only at hx;split at hx
 ·rename_i cs ds os;split at hx
  ·rename_i hos;split at hx
   ·rename_i y z hy hz;simp only[Tr.val]at hx;split at hx
    ·rename_i hc;simp only[bB]at hx;subst hx;have hR:=h y z x hc C (λid hid=>hC id (by simpa[hos]using hid));intro b cs' a w U ρ h1 h2 hcn hW;have hH:jF C w U ρ (λj=>((Qa cs::Qa ds::os).getD j .dead)):=hcn.hp
     have hcn':Cn C (bd f.ntmps (.ptr 0 0::.ptr 1 0::jx (ks.map Q1) x) (ch ps qs y z)) a w U ρ:=
      ⟨hcn.tm,hH.box2 hos hy hz,λid hid=>hcn.new id (by have hid:(ch ps qs y z).length<=id:=hid;rw[pC]at hid;simpa[bd,hos]using hid),hcn.df,hcn.r0⟩
     obtain⟨e,w',fr,⟨v,r,h',U',ρ',he,hq,hrv,hH',hnew,hr0,hWd⟩,hcm,hf',hl⟩:=hR b cs' a w U ρ h1 h2 hcn' hW;unfold AC at hq;split at hq
     ·rename_i cs2 ds2 os2;split at hq
      ·rename_i hos2;split at hq
       ·rename_i a' y' z' ha' hy' hz';simp only[bB]at hq;refine⟨e,w',fr,⟨v,_,_,U',ρ',he,by rw[<-hq],GL ha' hrv,hH'.box2 hos2 hy' hz',λid hid=>hnew id (by rw[pC]at hid;simpa[hos2]using hid),hr0,hWd⟩,hcm,hf',hl⟩
       ·cases hq
      ·cases hq
     ·cases hq
    ·simp at hx
   ·simp at hx
  ·simp at hx
 ·simp at hx
def Pb{σ:Type}(outs:List Sh)(ps' qs':List CP)(t:σ->Tr (σ⊕az))(n:Nat)(i:Tr (σ⊕az)):Option (zx (outs.map Q1)×zn ps'×zn qs'):=(de t n i).bind λr=>AC ps' qs' outs r.1 r.2
theorem zeG{P:Program}{gl:Nat->AV}{σ:Type}{E:bW}{k:FuncId}{f:Func}{ps qs:List CP}{ks outs:List Sh}{ps' qs':List CP}{keep:Nat->aN}{gas n:Nat}{e:σ->Nat×St}{t:σ->Tr (σ⊕az)}{i:zn ps->zn qs->zx (ks.map Q1)->Tr (σ⊕az)}{c:zn ps->zn qs->zx (ks.map Q1)->Bool}{g:zn ps->zn qs->zx (ks.map Q1)->zx (outs.map Q1)×zn ps'×zn qs'}
  (hE:zt E) (hf:zI E.P k f (ks.length+2)) (hgo:∀y z x,run E (aU ps+aU qs+2) keep f.results.toList gas (bw f) (bd f.ntmps (.ptr 0 0::.ptr 1 0::jx (ks.map Q1) x) (ch ps qs y z))=(i y z x).map (lf f e))
  (hon:∀s,run E (aU ps+aU qs+2) keep f.results.toList gas (ac f (e s).1) (e s).2=(t s).map (lf f e))
  (hc:∀y z x,c y z x=(Pb outs ps' qs' t n (i y z x)).isSome) (hg:∀y z x,g y z x=(Pb outs ps' qs' t n (i y z x)).getD (cm outs,fJ ps',fJ qs')) (qp:E.P=P:=by rfl) (qg:E.gl=gl:=by rfl):oZ P gl k (S0 ps qs ks outs ps' qs' c g):=by
 subst qp qg;refine Sy hf λy z x hcx C hC=>?_
 rw[hc,Option.isSome_iff_exists]at hcx;obtain⟨u,hu⟩:=hcx;rw[hg,hu];unfold Pb at hu;rw[gm]at hu;obtain⟨r,h1,h2⟩:=hu;exact pR (Q:=λr h=>AC ps' qs' outs r h=Q1 u) hE hf hC (n+1) _ _ r (by rw[nW hon (hgo y z x)];exact h1) h2
section
variable {σ:Type} {t:σ->Tr (σ⊕az)}
def zX(t:σ->Tr (σ⊕az))(k:Nat)(s:σ)(r:az):Prop:=∀n,k<=n->da t n s=Q1 r
def zT(t:σ->Tr (σ⊕az))(m:Nat)(s s':σ):Prop:=∀k r,zX t k s' r->zX t (k+m) s r
theorem zX.mono{k k':Nat}{s:σ}{r:az}(h:zX t k s r)(hk:k<=k'):zX t k' s r:=λn hn=>h n ow
theorem zX.of{s:σ}{r:az}(h:(t s).val=Q1 (.inr r)):zX t 1 s r:=by
 intro n hn;obtain⟨n,rfl⟩:∃k,n=k+1:=⟨n-1,ow⟩;rw[da,h]
theorem zT.of{s s':σ}(h:(t s).val=Q1 (.inl s')):zT t 1 s s':=by
 intro k r hr n hn;obtain⟨n,rfl⟩:∃k,n=k+1:=⟨n-1,ow⟩;rw[da,h];exact hr n ow
theorem zT.refl(s:σ):zT t 0 s s:=λ_ _ h=>h
theorem zT.trans{a b:Nat}{s s' s'':σ}(h1:zT t a s s')(h2:zT t b s' s''):zT t (b+a) s s'':=λk r h=>(h1 _ _ (h2 k r h)).mono ow
theorem zT.mono{a b:Nat}{s s':σ}(h:zT t a s s')(hk:a<=b):zT t b s s':=λk r hr=>(h k r hr).mono ow
theorem zT.ends{a k:Nat}{s s':σ}{r:az}(h1:zT t a s s')(h2:zX t k s' r):zX t (k+a) s r:=h1 k r h2
theorem zT.all(m:Nat)(st:Nat->σ):∀(N:Nat),(∀i,i<N->zT t m (st i) (st (i+1)))->zT t (N*m) (st 0) (st N)
 |0,_=>(zT.refl _).mono ow
 |N+1,h=>((zT.all m st N λi hi=>h i ow).trans (h N ow)).mono (by rw[nF];omega)
theorem my{Φ:az->Prop}(m:Nat)(st:Nat->σ)(P:Nat->Prop):∀(N:Nat),(∀i,i<N->(∀j,j<i->P j)->(P i/\zT t m (st i) (st (i+1)))\/(¬P i/\∃r,zX t m (st i) r/\Φ r))->
  ((∀i,i<N->P i)/\zT t (N*m) (st 0) (st N))\/((¬∀i,i<N->P i)/\∃r,zX t (N*m) (st 0) r/\Φ r)
 |0,_=>.inl ⟨λi hi=>absurd hi ow,(zT.refl _).mono ow⟩
 | N+1,h=>by
  rcases my m st P N λi hi=>h i ow with⟨h1,h2⟩|⟨h1,r,h2,h3⟩
  ·rcases h N ow h1 with⟨h4,h5⟩|⟨h4,r,h5,h6⟩
   ·refine .inl ⟨λi hi=>?_,(h2.trans h5).mono (by rw[nF];omega)⟩;rcases Nat.lt_succ_iff_lt_or_eq.1 hi with hi|rfl
    ·exact h1 i hi
    ·exact h4
   ·exact .inr ⟨λh=>h4 (h N ow),r,(h2.ends h5).mono (by rw[nF];omega),h6⟩
  ·exact .inr ⟨λh=>h1 λi hi=>h i ow,r,h2.mono (by rw[nF];omega),h3⟩
theorem zy{outs:List Sh}{n k:Nat}{i:Tr (σ⊕az)}{s:σ}{r:az}{y:zx (outs.map Q1)}(hi:i.val=Q1 (.inl s))(h:zX t k s r)(hk:k<=n)(hr:aM r.2 outs r.1=Q1 y):ah outs t n i=Q1 y:=by
 unfold ah de;rw[hi];show(da t n s).bind _=_;rw[h n hk];exact hr
theorem zH{outs:List Sh}{n:Nat}{i:Tr (σ⊕az)}{r:az}{y:zx (outs.map Q1)}(hi:i.val=Q1 (.inr r))(hr:aM r.2 outs r.1=Q1 y):ah outs t n i=Q1 y:=by
 unfold ah de;rw[hi];exact hr
theorem VQ{outs:List Sh}{ps:List CP}{n:Nat}{i:Tr (σ⊕az)}{r:az}{y:zx (outs.map Q1)×zn ps}(hi:i.val=Q1 (.inr r))(hr:th ps outs r.1 r.2=Q1 y):km outs ps t n i=Q1 y:=by
 unfold km de;rw[hi];exact hr
end
noncomputable section
theorem Reach.lenA{E:bW}{C:fh}{fn:FuncId}{todo:List Item}{st:St}{Q:AV->List AO->Prop}(j c:Nat)(e:Sh)(l:List (Sem e)){cs:List AV}(h1:st.tmps[j]?=Q1 (.agg cs))(h2:cs[c]?=Q1 (.sl e l))(h:l.length<=aF->Reach E C fn todo st Q):Reach E C fn todo st Q:=by
 intro b cs' a w U ρ q1 q2 hc hW;refine h ?_ b cs' a w U ρ q1 q2 hc hW;have hlt:j<a.tmps.toList.length:=by rw[<-hc.tm.len];exact(dh.1 h1).1
 have:=hc.tm.rv j _ _ h1 (zQ hlt);generalize a.tmps.toList[j]=v at this;cases this with
 |agg _ vs hlv _ hr=>
 have hlt:c<vs.length:=by rw[<-hlv];exact(dh.1 h2).1
 have:=hr c _ _ h2 (zQ hlt);generalize vs[c]=v at this;cases this with
 |sl0=>simp
 |sl _ _ _ _ _ _ _ hm=>exact hm
abbrev zlv:Nat->aN:=λj=>if j=3 then{slots:=[0,3,4],prom:=[(3,Q2,zf)]}else{ }
inductive PY where
 |h3 (l0:List (Sem zf)) (i4:Int) (lh_0:List (Sem zf))
abbrev zod:PY->Nat×St
 |.h3 l0 i4 lh_0=>(3,⟨tm 24 [(0,sl zf l0),(3,AV.vec 0),(4,ai i4)],[AO.vec zf lh_0]⟩)
def zpD(x0:Sem zf.sl):Tr (PY⊕az):=Tr.to (PY.h3 x0 0 [])
def zag:PY->Tr (PY⊕az)
 | .h3 l0 i4 lh_0=>
  let a0:=l0.getD i4.toNat (zj zf)
  let a1:=[EU a0]
  br (bif Q0 (i4<(↑l0.length:Int))then Q0 (i4<14)else Q4)
  (chk (zO i4 l0.length) (chk (LZ a0) (chk (Q0 (lh_0.length+a1.length<=1073741824)) (Tr.to (PY.h3 l0 (IntKind.i64.wrap (i4+1)) (lh_0++a1))))))
  (re (AV.vec 0) [AO.vec zf lh_0])
def zmc(x0:Sem zf.sl):=ah [zf.sl] zag 100000000 (zpD x0)
def zhy:=FT [zf.sl] [zf.sl] λx=>zmc x.1
theorem Sm:FK 43 zhy:=wS.T1 (f:=Tryz.f43) (keep:=zlv) (e:=zod)
abbrev zlI:Nat->aN:=λj=>if j=3 then{slots:=[0,3,4],prom:=[(3,Q2,zi)]}else{ }
inductive Me where
 |h3 (l0:List (Sem zi)) (i4:Int) (lh_0:List (Sem zi))
abbrev zom:Me->Nat×St
 |.h3 l0 i4 lh_0=>(3,⟨tm 33 [(0,sl zi l0),(3,AV.vec 0),(4,ai i4)],[AO.vec zi lh_0]⟩)
def zpJ(x0:Sem zi.sl):Tr (Me⊕az):=Tr.to (Me.h3 x0 0 [])
def zai:Me->Tr (Me⊕az)
 | .h3 l0 i4 lh_0=>
  let a0:=l0.getD i4.toNat (zj zi)
  let a1:=(↑(length a0.1):Int)
  let a2:=[(Qg (toNat 20-toNat 0) (Qh (toNat 0) a0.1),a0.2)]
  let a3:=IntKind.i64.wrap (i4+1)
  let a4:=[a0]
  br (bif Q0 (i4<(↑l0.length:Int))then Q0 (i4<9)else Q4)
  (chk (zO i4 l0.length) (br (Q0 (a1>20)) (chk (Q0 (0<=0)&&Q0 (0<=20)&&Q0 (20<=a1)) (chk (Q0 (lh_0.length+a2.length<=1073741824)) (Tr.to (Me.h3 l0 a3 (lh_0++a2))))) (chk (Q0 (lh_0.length+a4.length<=1073741824)) (Tr.to (Me.h3 l0 a3 (lh_0++a4))))))
  (re (AV.vec 0) [AO.vec zi lh_0])
def zmb(x0:Sem zi.sl):=ah [zi.sl] zai 100000000 (zpJ x0)
def zh2:=FT [zi.sl] [zi.sl] λx=>zmb x.1
theorem Su:FK 42 zh2:=wS.T1 (f:=Tryz.f42) (keep:=zlI) (e:=zom)
def lX(l:Sem zf.sl):Sem zf.sl:=(Qg 14 l).map EU
def jN(l:Sem zi.sl):Sem zi.sl:=(Qg 9 l).map λc:Sem zi=>((jt c.1,c.2):Sem zi)
theorem wt(k:Nat){α:Type}(l:List α):l.take (min k l.length)=l.take k:=by
 rcases Nat.le_total k l.length with h|h
 ·rw[Fd h]
 ·rw[Fc h,lN,Of h]
theorem ZC{i k n:Nat}{K:Int}(hk:K=(k:Int))(h:i<min k n):(bif Q0 ((i:Int)<(n:Int))then Q0 ((i:Int)<K)else Q4)=Q3:=by
 have h1:(i:Int)<n:=by omega
 have h2:(i:Int)<K:=by omega
 rw[zu h1,zu h2];rfl
theorem OV{k:Nat}{K:Int}(hk:K=(k:Int))(n:Nat):(bif Q0 (((min k n:Nat):Int)<(n:Int))then Q0 (((min k n:Nat):Int)<K)else Q4)=Q4:=by
 rcases Nat.le_total k n with h|h
 ·rw[Fd h,hk];simp
 ·rw[Fc h];simp
theorem I9{α:Type}{l:List α}{i:Nat}(h:i<l.length)(d:α):l.take (i+1)=l.take i++[l.getD i d]:=by
 rw[List.take_add_one,zQ h,ba,zQ h];rfl
def J2:=zbC.addL [(43,zhy),(42,zh2)]
theorem wT:zt J2:=wS.addL<|fc Sm<|fc Su ja
end
theorem nD{P:Program}{gl:Nat->AV}{k:FuncId}{ks outs:List Sh}{c:zx (ks.map Q1)->Bool}{g:zx (ks.map Q1)->zx (outs.map Q1)}(h:oZ P gl k (zN ks outs c g))(hc:∀x,c x=Q3):oZ P gl k (aG ks outs g):=
 Oc (by rwa [show c=λ_=>Q3 from funext hc]at h)
theorem El(v:V):LZ v=Q3:=by
 unfold LZ;cases h:Q0 ((↑(length v.2.2):Int)>60)
 ·rfl
 ·simp only[aO]at h;simp only[zZ,aE,aO];omega
theorem NL(s:zB):PG s=Q3:=by
 unfold PG;cases h:Q0 ((↑(length s):Int)>20)
 ·rfl
 ·simp only[aO]at h;simp only[zZ,aE,aO];omega
theorem Rn(l:List (Sem zf)):zmc l=Q1 (lX l,()):=by
 have g:=zT.all (t:=zag) 1 (λi=>.h3 l (i:Int) ((Qg i l).map EU)) (min 14 l.length) λi hi=>zT.of (by
  have hl:i<l.length:=by omega
  have hn:Q0 ((List.map EU (Qg i l)).length+[EU (l.getD i (zj zf))].length<=1073741824)=Q3:=by simp;omega
  simp only[zag,Tr.val,ZC (k:=14) (K:=14) rfl hi,zw hl,if_true,aK,El,hn];rw[zr i um,I9 hl (zj zf),iA];rfl)
 rw[wt]at g;refine zy rfl (g.ends (k:=1) (r:=(.vec 0,[.vec zf (lX l)])) (zX.of ?_)) ow rfl;simp only[zag,Tr.val,OV (k:=14) (K:=14) rfl,zF,if_false];rfl
theorem Rl(l:List (Sem zi)):zmb l=Q1 (jN l,()):=by
 have g:=zT.all (t:=zai) 1 (λi=>.h3 l (i:Int) ((Qg i l).map λc:Sem zi=>((jt c.1,c.2):Sem zi))) (min 9 l.length) λi hi=>zT.of (by
  have hl:i<l.length:=by omega
  have ht:(Qg (i+1) l).map (λc:Sem zi=>((jt c.1,c.2):Sem zi))=(Qg i l).map (λc:Sem zi=>((jt c.1,c.2):Sem zi))++[(jt (List.getD l i (zj zi)).1,(List.getD l i (zj zi)).2)]:=by rw[I9 hl (zj zi),iA];rfl
  have hi':((Qg i l).map (λc:Sem zi=>((jt c.1,c.2):Sem zi))).length<=9:=by rw[di,pn];omega
  rw[ht];generalize(Qg i l).map (λc:Sem zi=>((jt c.1,c.2):Sem zi))=acc at hi'⊢;have hn:Q0 (acc.length+1<=1073741824)=Q3:=zu ow;simp only[zai,Tr.val,ZC (k:=9) (K:=9) rfl hi,zw hl,if_true,aK,eE,jI,jJ,hn];rw[zr i um];unfold jt;by_cases h:(length (List.getD l i (zj zi)).1:Int)>20
  ·have h20:Q0 ((20:Int)<=(length (List.getD l i (zj zi)).1:Int))=Q3:=zu ow;simp only[zu h,h20,if_true];rfl
  ·simp only[ao h,zF,if_false])
 rw[wt]at g;refine zy rfl (g.ends (k:=1) (r:=(.vec 0,[.vec zi (jN l)])) (zX.of ?_)) ow rfl;simp only[zai,Tr.val,OV (k:=9) (K:=9) rfl,zF,if_false];rfl
def zhz:zV:=aG [zf] [zf] λx=>(EU x.1,())
theorem zdk:FK 85 zhz:=nD zbs λx=>El x.1
def zhq:zV:=aG [Q6] [Q6] λx=>(jt x.1,())
theorem zdd:FK 135 zhq:=nD zbr λx=>NL x.1
def F6t:zV:=aG [zf.sl] [zf.sl] λx=>(lX x.1,())
theorem zjw:FK 43 F6t:=g6 Sm λx=>Rn x.1
def zhu:zV:=aG [zi.sl] [zi.sl] λx=>(jN x.1,())
theorem zdh:FK 42 zhu:=g6 Su λx=>Rl x.1
abbrev Ap:Nat->aN:=λ_=>{slots:=[0,1,7,8]}
def nX{K:List Item}{e:Sh}(l:List (Sem e))(p:Sem e->Bool)(st:Int->St)(h0:List AO)(i:Int):Tr zD:=.br (Q0 (i<(l.length:Int))) (.chk (zO i l.length) (.br (p (l.getD i.toNat (zj e))) (.ok (.ret (.int .i64 i) h0)) (.ok (.head 2 K (st (IntKind.i64.wrap (i+1))))))) (.ok (.ret (.int .i64 (-1)) h0))
theorem kI{E:bW}{C:fh}{k:FuncId}{f:Func}{n n0:Nat}{keep:Nat->aN}{fuel:Nat}{K:List Item}{e:Sh}(l:List (Sem e))(p:Sem e->Bool)(st:Int->St){h0:List AO}
  (hE:zt E) (hf:zI E.P k f n) (hC:∀id,n0<=id->C.ρ0 id=Q2)
  (hon:∀i,run E n0 keep f.results.toList fuel K (st i)=nX (K:=K) l p st h0 i) (hl:l.length<=aF):∀(m i:Nat),l.length-i=m->i<=l.length->
  Reach E C k K (st i) (λr h=>(r,h)=(.int .i64 (zR p (l.drop i) i),h0)):=by
 intro m
 induction m with
 | zero=>
  intro i hE.mix' hi;obtain rfl:i=l.length:=by omega
  refine zE hE hf hC (hon _) ?_;simp only[nX,Tr.val,zC,jH];rfl
 | succ m IH=>
  intro i hE.mix' hi;have hlt:i<l.length:=by omega
  refine zE hE hf hC (hon _) ?_;rw[fH hlt];simp only[nX,Tr.val,zJ hlt,zw hlt,cI l _ hlt,zr i ow,if_true,zR];split
  ·rfl
  ·exact IH (i+1) ow ow
abbrev Bf(t:Int)(l:List (Sem zg))(i:Int):St:={tmps:=[.sl zg l,.clo (.func 297) [] [.ptr 0 0],.any,.any,.any,.any,.any,.int .i64 l.length,.int .i64 i,.any,.any,.any,.any,.any,.any,.any,.any,.any,.any],heap:=[.box [.int .i64 t]]}
theorem T3(t:Int)(l:List (Sem zg)):run J2 1 Ap Tryz.f327.results.toList 300 (bw Tryz.f327) (bd Tryz.f327.ntmps [.sl zg l,.clo (.func 297) [] [.ptr 0 0]] [.box [.int .i64 t]])=.ok (.head 2 (ac Tryz.f327 2) (Bf t l 0)):=kw
theorem VH(t:Int)(l:List (Sem zg))(i:Int):run J2 1 Ap Tryz.f327.results.toList 300 (ac Tryz.f327 2) (Bf t l i)=nX (K:=ac Tryz.f327 2) (e:=zg) l (λx=>bif x !=t then x !=0 else Q4) (Bf t l) [.box [.int .i64 t]] i:=kw
theorem Vr:zI J2.P 327 Tryz.f327 2:=bR kw
def zjX:iV [Q1 (.sl zg),Q2]:=λx h=>match x,h with
 |(l,.clo (.func 297) [] [.ptr 0 0],_),[.box [.int .i64 t]]=>.ok (.int .i64 (zR (λx=>bif x !=t then x !=0 else Q4) l 0),[.box [.int .i64 t]])
 |_,_=>.err
def zhd:zV:=bh [Q1 (.sl zg),Q2] zjX
theorem zc0:FK 327 zhd:=by
 refine dR Vr λx h0 res hx C hC=>?_
 unfold zjX at hx;split at hx
 ·rename_i l u t;simp only[Tr.val_ok,bB]at hx;subst hx;refine Reach.len 0 zg l rfl λhl=>?_
  refine zE (n0:=1) wT Vr hC (T3 t l) ?_;exact kI l (λx=>bif x !=t then x !=0 else Q4) (Bf t l) wT Vr hC (VH t l) hl _ 0 rfl (aY _)
 ·simp at hx
noncomputable def uH:=J2.addL [(85,zhz),(135,zhq),(43,F6t),(42,zhu),(327,zhd)]
theorem mL:zt uH:=wT.addL<|fc zdk<|fc zdd<|fc zjw<|fc zdh<|fc zc0 ja
noncomputable def F78:zV:=bh [Q1 (.sl zg),Q2] (fB uH Tryz.f296 [Q1 (.sl zg),Q2])
theorem zjC:FK 296 F78:=cd _ mL (bR kw)
def eb(x0:Sem Q6):Sem Q7:=qC x0
theorem zmr:zI uH.P 130 Tryz.f130 1:=bR kw
theorem zoT(x0:Sem Q6):rn uH 0 (λ_=>{ }) Tryz.f130 [zz Q6 x0] []=Tr.ok (zD.ret (AV.bool (qC x0)) []):=kw
def F25:zV:=aG [Q6] [Q7] λx=>(eb x.1,())
theorem ziU:FK 130 F25:=by
 refine zY zmr λx C hC=>?_
 refine aT mL zmr (λid _=>hC id) (zoT x.1) ?_;simp only[Tr.val,eb];repeat' split
 all_goals rfl
def zP(x0:Sem zp)(x1:Sem Q6):Sem zg:=zR (λc=>c.1==x1) x0.2.1 0
theorem zmn:zI uH.P 154 Tryz.f154 2:=bR kw
theorem zoP(x0:Sem zp)(x1:Sem Q6):rn uH 0 (λ_=>{ }) Tryz.f154 [zz zp x0,zz Q6 x1] []=Tr.ok (zD.ret (ai (zR (λc=>c.1==x1) x0.2.1 0)) []):=kw
def F17:zV:=aG [zp,Q6] [zg] λx=>(zP x.1 x.2.1,())
theorem ziP:FK 154 F17:=by
 refine zY zmn λx C hC=>?_
 refine aT mL zmn (λid _=>hC id) (zoP x.1 x.2.1) ?_;simp only[Tr.val,zP];repeat' split
 all_goals rfl
def ag(x0:Sem zi.sl)(x1:Sem Q6):Sem zg:=zR (λc=>c.1==x1) x0 0
theorem zmM:zI uH.P 256 Tryz.f256 2:=bR kw
theorem zpc(x0:Sem zi.sl)(x1:Sem Q6):rn uH 0 (λ_=>{ }) Tryz.f256 [zz zi.sl x0,zz Q6 x1] []=Tr.ok (zD.ret (ai (zR (λc=>c.1==x1) x0 0)) []):=kw
def F48:zV:=aG [zi.sl,Q6] [zg] λx=>(ag x.1 x.2.1,())
theorem zjd:FK 256 F48:=by
 refine zY zmM λx C hC=>?_
 refine aT mL zmM (λid _=>hC id) (zpc x.1 x.2.1) ?_;simp only[Tr.val,ag];repeat' split
 all_goals rfl
noncomputable def Fl:=uH.addL [(296,F78),(130,F25),(154,F17),(256,F48)]
theorem wU:zt Fl:=mL.addL<|fc zjC<|fc ziU<|fc ziP<|fc zjd ja
def mn(x0:Sem zg.sl)(x1:Sem zg):Sem Q7:=!Q0 (zR (λx=>bif x !=x1 then x !=0 else Q4) x0 0>=0)
theorem zmW:zI Fl.P 257 Tryz.f257 2:=bR kw
theorem zpo(x0:Sem zg.sl)(x1:Sem zg):rn Fl 0 (λ_=>{ }) Tryz.f257 [zz zg.sl x0,zz zg x1] []=Tr.ok (zD.ret (AV.bool !Q0 (zR (λx=>bif x !=x1 then x !=0 else Q4) x0 0>=0)) []):=kw
def F66:zV:=aG [zg.sl,zg] [Q7] λx=>(mn x.1 x.2.1,())
theorem zju:FK 257 F66:=by
 refine zY zmW λx C hC=>?_
 refine aT wU zmW (λid _=>hC id) (zpo x.1 x.2.1) ?_;simp only[Tr.val,mn];repeat' split
 all_goals rfl
def zL(x0:Sem Q6):Sem Q7:=bif eb x0 then !jr x0 else Q4
theorem zmm:zI Fl.P 219 Tryz.f219 1:=bR kw
theorem zoO(x0:Sem Q6):rn Fl 0 (λ_=>{ }) Tryz.f219 [zz Q6 x0] []=Tr.ok (zD.ret (AV.bool (bif eb x0 then !jr x0 else Q4)) []):=kw
def F16:zV:=aG [Q6] [Q7] λx=>(zL x.1,())
theorem ziO:FK 219 F16:=by
 refine zY zmm λx C hC=>?_
 refine aT wU zmm (λid _=>hC id) (zoO x.1) ?_;simp only[Tr.val,zL];repeat' split
 all_goals rfl
noncomputable def TD:=Fl.addL [(257,F66),(219,F16)]
theorem Fm:zt TD:=wU.addL<|fc zju<|fc ziO ja
theorem eY{P:Program}{gl:Nat->AV}{k:FuncId}{ks outs:List Sh}{c:zx (ks.map Q1)->Bool}{g:zx (ks.map Q1)->zx (outs.map Q1)}(hf:∃fn,P.funcs[k]?=Q1 fn/\(fn.name=="runtime.NumGoroutine")=Q4/\fn.body.isNone=Q4)(hc:∀x,c x=Q4):oZ P gl k (zN ks outs c g):=by
 refine⟨hf,?_⟩;intro w U ρ hp n args vals f fp hv;exfalso;unfold zN bh at hv;split at hv
 ·simp only at hv;split at hv
  ·split at hv
   ·simp only[Tr.val_bind,gm]at hv;obtain⟨res,h1,h2⟩:=hv;unfold eR at h1;split at h1
    ·simp only[Tr.val,hc]at h1;simp at h1
    ·simp at h1
   ·simp at hv
  ·simp at hv
 ·simp at hv
theorem mB{Φ:zD->Prop}{c:Bool}{t f:Tr zD}(h1:c=Q3->gC Φ t.val)(h2:c=Q4->gC Φ f.val):gC Φ (br c t f).val:=by
 cases c
 ·simpa[Tr.val]using h2 rfl
 ·simpa[Tr.val]using h1 rfl
theorem mC{Φ:zD->Prop}{c:Bool}{t:Tr zD}(hc:c=Q3)(h:gC Φ t.val):gC Φ (chk c t).val:=by
 subst hc;simpa[Tr.val]using h
theorem zK{Φ:zD->Prop}{t:Tr zD}(h:gC Φ t.val):gC Φ (chk Q3 t).val:=h
theorem mV{c:Bool}(h:c=Q4):¬c=Q3:=by rw[h];simp
theorem qU{c g:Bool}(h:(if c=Q3 then g else Q4)=Q3):c=Q3/\g=Q3:=by
 split at h
 ·exact⟨‹_›,h⟩
 ·cases h
theorem vl{Φ:zD->Prop}{c:Bool}{t f:Tr zD}{α:Sort _}{a b y:α}{p q:Bool}(hy:(if c=Q3 then a else b)=y)(hc:(if c=Q3 then p else q)=Q3)(h1:c=Q3->a=y->p=Q3->gC Φ t.val)(h2:c=Q4->b=y->q=Q3->gC Φ f.val):gC Φ (Tr.br c t f).val:=
 mB (λh=>h1 h (by rwa [if_pos h]at hy) (by rwa [if_pos h]at hc)) (λh=>h2 h (by rwa [if_neg (mV h)]at hy) (by rwa [if_neg (mV h)]at hc))
theorem dn{Φ:zD->Prop}{c:Bool}{t f:Tr zD}{α:Sort _}{a b y:α}(hy:(if c=Q3 then a else b)=y)(h1:c=Q3->a=y->gC Φ t.val)(h2:c=Q4->b=y->gC Φ f.val):gC Φ (Tr.br c t f).val:=
 mB (λh=>h1 h (by rwa [if_pos h]at hy)) (λh=>h2 h (by rwa [if_neg (mV h)]at hy))
theorem iK{Φ:zD->Prop}{c g:Bool}{t:Tr zD}(hc:(if c=Q3 then g else Q4)=Q3)(h:g=Q3->gC Φ t.val):gC Φ (Tr.chk c t).val:=
 mC (qU hc).1 (h (qU hc).2)
theorem Tr.val_brT{α:Type}(t f:Tr α):(br Q3 t f).val=t.val:=rfl
theorem Tr.val_brF{α:Type}(t f:Tr α):(br Q4 t f).val=f.val:=rfl
theorem Tr.val_chkT{α:Type}(t:Tr α):(chk Q3 t).val=t.val:=rfl
instance:Inhabited ze:=⟨.mk [] (0,0,[]) [] []⟩
instance (s:Sh):Inhabited (Sem s):=⟨zj s⟩
noncomputable def QP(g:Sem Q5->Sem (Sh.sl zi)->Sem zg×Sem zg)(c:Sem Q5->Sem (Sh.sl zi)->Bool):bW:=TD.add 206 (zN [Q5,Sh.sl zi] [zg,zg] (λx=>c x.1 x.2.1) λx=>((g x.1 x.2.1).1,(g x.1 x.2.1).2,()))
theorem Cd{g:Sem Q5->Sem (Sh.sl zi)->Sem zg×Sem zg}{c:Sem Q5->Sem (Sh.sl zi)->Bool}(hg:FK 206 (zN [Q5,Sh.sl zi] [zg,zg] (λx=>c x.1 x.2.1) λx=>((g x.1 x.2.1).1,(g x.1 x.2.1).2,()))):zt (QP g c):=Fm.add hg
abbrev zcw:Nat->aN:=λj=>if j=3 then{slots:=[1,2,6,15,16,17],prom:=[(6,Q2,zg)]}else{ }
abbrev DV(l1:LC)(l15:LX)(i16:Int)(i17:Int)(ja0:zB)(ja1:Int)(ja2:Int)(ja3:zB)(ja4:zB)(ja5:LX)(lh_1:LI):St:={tmps:=(tm 91 [(1,sl zi l1),(2,ptr 0 0),(6,AV.vec 1),(15,sl Q5 l15),(16,ai i16),(17,ai i17)]),heap:=[Qa [str ja0,ai ja1,ai ja2,str ja3,str ja4,sl Q5 ja5],AO.vec zg lh_1]}
theorem C5(g:Sem Q5->Sem (Sh.sl zi)->Sem zg×Sem zg)(c:Sem Q5->Sem (Sh.sl zi)->Bool):zI (QP g c).P 206 Tryz.f206 2:=bR kw
theorem zkO(g:Sem Q5->Sem (Sh.sl zi)->Sem zg×Sem zg)(c:Sem Q5->Sem (Sh.sl zi)->Bool)(x0:Sem Q5)(x1:Sem zi.sl):rn (QP g c) 0 zcw Tryz.f206 [zz Q5 x0,zz zi.sl x1] []=Tr.ok (zD.head 3 (ac Tryz.f206 3) (DV x1 (ze.l x0) (↑(ze.l x0).length:Int) 0 (ze.op x0) (ze.v x0).1 (ze.v x0).2.1 (ze.v x0).2.2 (ze.s x0) (ze.l x0) [])):=kw
theorem O8(g:Sem Q5->Sem (Sh.sl zi)->Sem zg×Sem zg)(c:Sem Q5->Sem (Sh.sl zi)->Bool)(l1:LC)(l15:LX)(i16:Int)(i17:Int)(ja0:zB)(ja1:Int)(ja2:Int)(ja3:zB)(ja4:zB)(ja5:LX)(lh_1:LI):rh (QP g c) 0 zcw Tryz.f206 3 (DV l1 l15 i16 i17 ja0 ja1 ja2 ja3 ja4 ja5 lh_1)=br (Q0 (i17<i16)) (chk (zO i17 l15.length) (chk (c (zm (l15.getD i17.toNat (zj Q5))) l1) (br ((g (zm (l15.getD i17.toNat (zj Q5))) l1).2!=0) (Tr.ok (zD.ret (tup [ai 0,AV.int IntKind.i64 (g (zm (l15.getD i17.toNat (zj Q5))) l1).2]) [])) (chk (Q0 (lh_1.length+[(g (zm (l15.getD i17.toNat (zj Q5))) l1).1].length<=1073741824)) (Tr.ok (zD.head 3 (ac Tryz.f206 3) (DV l1 l15 i16 (IntKind.i64.wrap (i17+1)) ja0 ja1 ja2 ja3 ja4 ja5 (lh_1++[(g (zm (l15.getD i17.toNat (zj Q5))) l1).1])))))))) (br (ja0==mH) (Tr.ok (zD.ret (tup [ai ja1,ai 0]) [])) (br (ja0==ee) (br (Q0 (ag l1 ja4<0)) (Tr.ok (zD.ret (tup [ai 0,ai 4]) [])) (chk (zO (ag l1 ja4) l1.length) (Tr.ok (zD.ret (tup [ai (l1.getD (toNat (ag l1 ja4)) (zj zi)).2.1,ai 0]) [])))) (br (ja0==mI) (br (!mn lh_1 3) (Tr.ok (zD.ret (tup [ai 0,ai 5]) [])) (Tr.ok (zD.ret (tup [ai 3,ai 0]) []))) (br (ja0==cY) (br (!mn lh_1 3) (Tr.ok (zD.ret (tup [ai 0,ai 5]) []))
 (Tr.ok (zD.ret (tup [ai 3,ai 0]) []))) (br (ja0==uw) (br (!mn lh_1 3) (Tr.ok (zD.ret (tup [ai 0,ai 5]) [])) (Tr.ok (zD.ret (tup [ai 3,ai 0]) []))) (br (ja0==[61]) (chk (zO 0 lh_1.length&&(Q0 (toNat 0<lh_1.length)&&(zO 1 lh_1.length&&(Q0 (toNat 1<lh_1.length)&&bif lh_1.getD (toNat 0) (zj zg)==lh_1.getD (toNat 1) (zj zg)then Q3 else zO 0 lh_1.length&&(Q0 (toNat 0<lh_1.length)&&bif lh_1.getD (toNat 0) (zj zg)==0 then Q3 else zO 1 lh_1.length&&Q0 (toNat 1<lh_1.length)))))) (br (!bif lh_1.getD (toNat 0) (zj zg)==lh_1.getD (toNat 1) (zj zg)then Q3 else bif lh_1.getD (toNat 0) (zj zg)==0 then Q3 else lh_1.getD (toNat 1) (zj zg)==0) (Tr.ok (zD.ret (tup [ai 0,ai 5]) [])) (Tr.ok (zD.ret (tup [ai 3,ai 0]) [])))) (br (ja0==[60]) (chk (zO 0 lh_1.length&&(Q0 (toNat 0<lh_1.length)&&(zO 1 lh_1.length&&(Q0 (toNat 1<lh_1.length)&&bif lh_1.getD (toNat 0) (zj zg)==lh_1.getD (toNat 1) (zj zg)then Q3 else zO 0 lh_1.length&&(Q0 (toNat 0<lh_1.length)&&bif lh_1.getD (toNat 0) (zj zg)==0 then Q3 else zO 1 lh_1.length&&Q0 (toNat 1<lh_1.length)))))) (br (!bif lh_1.getD (toNat 0) (zj zg)==lh_1.getD (toNat 1) (zj zg)then Q3
 else bif lh_1.getD (toNat 0) (zj zg)==0 then Q3 else lh_1.getD (toNat 1) (zj zg)==0) (Tr.ok (zD.ret (tup [ai 0,ai 5]) [])) (Tr.ok (zD.ret (tup [ai 3,ai 0]) [])))) (br (ja0==[43]) (br (!mn lh_1 1) (Tr.ok (zD.ret (tup [ai 0,ai 5]) [])) (Tr.ok (zD.ret (tup [ai 1,ai 0]) []))) (br (ja0==[45]) (br (!mn lh_1 1) (Tr.ok (zD.ret (tup [ai 0,ai 5]) [])) (Tr.ok (zD.ret (tup [ai 1,ai 0]) []))) (Tr.ok (zD.ret (tup [ai 3,ai 0]) []))))))))))):=kw
def aH(g:Sem Q5->Sem (Sh.sl zi)->Sem zg×Sem zg)(c:Sem Q5->Sem (Sh.sl zi)->Bool)(l1:LC)(ja0:zB)(ja1:Int)(ja2:Int)(ja3:zB)(ja4:zB)(ja5:LX):List (Sem Q5)->Int->List (Sem zg)->Sem zg×Sem zg
 |[],_,lh_1=>if(ja0==mH)=Q3 then(ja1,0)
else
 if(ja0==ee)=Q3 then
  if Q0 (ag l1 ja4<0)=Q3 then(0,4)
  else((l1.getD (toNat (ag l1 ja4)) (zj zi)).2.1,0)
 else
  if(ja0==mI)=Q3 then if(!mn lh_1 3)=Q3 then(0,5)else(3,0)
  else
   if(ja0==cY)=Q3 then if(!mn lh_1 3)=Q3 then(0,5)else(3,0)
   else
    if(ja0==uw)=Q3 then if(!mn lh_1 3)=Q3 then(0,5)else(3,0)
    else
     if (ja0==[61])=true then
      if
        (!bif lh_1.getD (toNat 0) (zj zg)==lh_1.getD (toNat 1) (zj zg)then Q3
          else bif lh_1.getD (toNat 0) (zj zg)==0 then Q3 else lh_1.getD (toNat 1) (zj zg)==0)=
         Q3 then
       (0,5)
      else(3,0)
     else
      if (ja0==[60])=true then
       if
         (!bif lh_1.getD (toNat 0) (zj zg)==lh_1.getD (toNat 1) (zj zg)then Q3
           else
            bif lh_1.getD (toNat 0) (zj zg)==0 then Q3 else lh_1.getD (toNat 1) (zj zg)==0)=
          Q3 then
        (0,5)
       else(3,0)
      else
       if(ja0==[43])=Q3 then if(!mn lh_1 1)=Q3 then(0,5)else(1,0)
       else if(ja0==[45])=Q3 then if(!mn lh_1 1)=Q3 then(0,5)else(1,0)else(3,0)
 |x::r,i17,lh_1=>if((g x l1).2!=0)=Q3 then(0,(g x l1).2)else aH g c l1 ja0 ja1 ja2 ja3 ja4 ja5 r (i17+1) (lh_1++[(g x l1).1])
def f9(g:Sem Q5->Sem (Sh.sl zi)->Sem zg×Sem zg)(c:Sem Q5->Sem (Sh.sl zi)->Bool)(l1:LC)(ja0:zB)(ja1:Int)(ja2:Int)(ja3:zB)(ja4:zB)(ja5:LX):List (Sem Q5)->Int->List (Sem zg)->Bool
 |[],_,lh_1=>if(ja0==mH)=Q3 then Q3
else
 if(ja0==ee)=Q3 then
  if Q0 (ag l1 ja4<0)=Q3 then Q3 else if zO (ag l1 ja4) l1.length=Q3 then Q3 else Q4
 else
  if(ja0==mI)=Q3 then Q3
  else
   if(ja0==cY)=Q3 then Q3
   else
    if(ja0==uw)=Q3 then Q3
    else
     if (ja0 == [61])=true then
      if
        (zO 0 lh_1.length&&
          (Q0 (toNat 0<lh_1.length)&&
           (zO 1 lh_1.length&&
            (Q0 (toNat 1<lh_1.length)&&
             bif lh_1.getD (toNat 0) (zj zg)==lh_1.getD (toNat 1) (zj zg)then Q3
             else
              zO 0 lh_1.length&&
               (Q0 (toNat 0<lh_1.length)&&
                bif lh_1.getD (toNat 0) (zj zg)==0 then Q3
                else zO 1 lh_1.length&&Q0 (toNat 1<lh_1.length))))))=
         Q3 then
       Q3
      else Q4
     else
      if (ja0 == [60])=true then
       if
         (zO 0 lh_1.length&&
           (Q0 (toNat 0<lh_1.length)&&
            (zO 1 lh_1.length&&
             (Q0 (toNat 1<lh_1.length)&&
              bif lh_1.getD (toNat 0) (zj zg)==lh_1.getD (toNat 1) (zj zg)then Q3
              else
               zO 0 lh_1.length&&
                (Q0 (toNat 0<lh_1.length)&&
                 bif lh_1.getD (toNat 0) (zj zg)==0 then Q3
                 else zO 1 lh_1.length&&Q0 (toNat 1<lh_1.length))))))=
          Q3 then
        Q3
       else Q4
      else Q3
 |x::r,i17,lh_1=>if c x l1=Q3 then
 if((g x l1).2!=0)=Q3 then Q3
 else
  if Q0 (lh_1.length+[(g x l1).1].length<=1073741824)=Q3 then
   f9 g c l1 ja0 ja1 ja2 ja3 ja4 ja5 r (i17+1) (lh_1++[(g x l1).1])
  else Q4
else Q4
theorem Ys(g:Sem Q5->Sem (Sh.sl zi)->Sem zg×Sem zg)(c:Sem Q5->Sem (Sh.sl zi)->Bool)(hg:FK 206 (zN [Q5,Sh.sl zi] [zg,zg] (λx=>c x.1 x.2.1) λx=>((g x.1 x.2.1).1,(g x.1 x.2.1).2,()))){C:fh}(hC:∀id,C.ρ0 id=Q2)(l1:LC)(ja0:zB)(ja1:Int)(ja2:Int)(ja3:zB)(ja4:zB)(ja5:LX)(l15:LX)(hl:l15.length<=aF):∀(m i:Nat)(lh_1:LI),l15.length-i=m->i<=l15.length->f9 g c l1 ja0 ja1 ja2 ja3 ja4 ja5 (l15.drop i) i lh_1=Q3->
  Reach (QP g c) C 206 (ac Tryz.f206 3) (DV l1 l15 (l15.length:Int) (i:Int) ja0 ja1 ja2 ja3 ja4 ja5 lh_1) (λr h=>aM h [zg,zg] r=Q1 ((aH g c l1 ja0 ja1 ja2 ja3 ja4 ja5 (l15.drop i) i lh_1).1,(aH g c l1 ja0 ja1 ja2 ja3 ja4 ja5 (l15.drop i) i lh_1).2,())):=by
 intro m
 induction m with
 | zero=>
  intro i lh_1 hm hi hc;obtain rfl:i=l15.length:=by omega
  rw[jH]at hc⊢;refine zE (Cd hg) (C5 g c) (λid _=>hC id) (O8 g c _ _ _ _ _ _ _ _ _ _ _) ?_;rw[f9]at hc;generalize hy:aH g c l1 ja0 ja1 ja2 ja3 ja4 ja5 [] _ lh_1=y;rw[aH]at hy;simp only[ze.eta,zC,Tr.val_brF];repeat' (first|with_reducible refine vl hy hc (λ_ hy hc=>?_) (λ_ hy hc=>?_)|with_reducible refine dn hy (λ_ hy=>?_) (λ_ hy=>?_)|with_reducible refine iK hc (λhc=>?_)|with_reducible refine zK ?_)
  all_goals(subst hy;first|rfl)
 | succ m IH=>
  intro i lh_1 hm hi hc;have hlt:i<l15.length:=by omega
  have IH:=IH (i+1);have hcast:((i:Int)+1)=((i+1:Nat):Int):=by omega
  have hwr:=zr i ow;rw[fH hlt]at hc⊢;refine zE (Cd hg) (C5 g c) (λid _=>hC id) (O8 g c _ _ _ _ _ _ _ _ _ _ _) ?_;rw[f9]at hc;generalize hy:aH g c l1 ja0 ja1 ja2 ja3 ja4 ja5 (l15[i]::l15.drop (i+1)) (i:Int) lh_1=y;rw[aH]at hy;simp only[ze.eta,zJ hlt,zw hlt,cI l15 _ hlt,hwr,Tr.val_brT,Tr.val_chkT];clear hwr;simp only[hcast]at hy
  try simp only[hcast]at hc
  repeat' (first|with_reducible refine vl hy hc (λ_ hy hc=>?_) (λ_ hy hc=>?_)|with_reducible refine dn hy (λ_ hy=>?_) (λ_ hy=>?_)|with_reducible refine iK hc (λhc=>?_)|with_reducible refine zK ?_)
  all_goals(subst hy;first|(change Reach _ _ _ _ _ _;apply IH<;>first|omega|assumption)|rfl)
theorem SQ(g:Sem Q5->Sem (Sh.sl zi)->Sem zg×Sem zg)(c:Sem Q5->Sem (Sh.sl zi)->Bool)(hg:FK 206 (zN [Q5,Sh.sl zi] [zg,zg] (λx=>c x.1 x.2.1) λx=>((g x.1 x.2.1).1,(g x.1 x.2.1).2,()))){C:fh}(hC:∀id,C.ρ0 id=Q2)(l1:LC)(ja0:zB)(ja1:Int)(ja2:Int)(ja3:zB)(ja4:zB)(ja5:LX)(l15:LX)(lh_1:LI)(hc:f9 g c l1 ja0 ja1 ja2 ja3 ja4 ja5 l15 0 lh_1=Q3):
  Reach (QP g c) C 206 (ac Tryz.f206 3) (DV l1 l15 (l15.length:Int) 0 ja0 ja1 ja2 ja3 ja4 ja5 lh_1) (λr h=>aM h [zg,zg] r=Q1 ((aH g c l1 ja0 ja1 ja2 ja3 ja4 ja5 l15 0 lh_1).1,(aH g c l1 ja0 ja1 ja2 ja3 ja4 ja5 l15 0 lh_1).2,())):=
 Reach.len 15 (Q5) l15 rfl λhl=>Ys g c hg hC l1 ja0 ja1 ja2 ja3 ja4 ja5 l15 hl _ 0 lh_1 rfl (aY _) hc
def yf(g:Sem Q5->Sem (Sh.sl zi)->Sem zg×Sem zg)(c:Sem Q5->Sem (Sh.sl zi)->Bool)(x0:Sem Q5)(x1:Sem zi.sl):Sem zg×Sem zg:=aH g c x1 (ze.op x0) (ze.v x0).1 (ze.v x0).2.1 (ze.v x0).2.2 (ze.s x0) (ze.l x0) (ze.l x0) 0 []
def Bq(g:Sem Q5->Sem (Sh.sl zi)->Sem zg×Sem zg)(c:Sem Q5->Sem (Sh.sl zi)->Bool)(x0:Sem Q5)(x1:Sem zi.sl):Bool:=f9 g c x1 (ze.op x0) (ze.v x0).1 (ze.v x0).2.1 (ze.v x0).2.2 (ze.s x0) (ze.l x0) (ze.l x0) 0 []
def znU(g:Sem Q5->Sem (Sh.sl zi)->Sem zg×Sem zg)(c:Sem Q5->Sem (Sh.sl zi)->Bool):zV:=zN [Q5,zi.sl] [zg,zg] (λx=>Bq g c x.1 x.2.1) λx=>((yf g c x.1 x.2.1).1,(yf g c x.1 x.2.1).2,())
theorem zd2(g:Sem Q5->Sem (Sh.sl zi)->Sem zg×Sem zg)(c:Sem Q5->Sem (Sh.sl zi)->Bool)(hg:FK 206 (zN [Q5,Sh.sl zi] [zg,zg] (λx=>c x.1 x.2.1) λx=>((g x.1 x.2.1).1,(g x.1 x.2.1).2,()))):FK 206 (znU g c):=by
 refine aJ (C5 g c) λx hc C hC=>?_
 unfold Bq at hc;refine zE (Cd hg) (C5 g c) (λid _=>hC id) (zkO g c x.1 x.2.1) ?_;generalize hy:yf g c x.1 x.2.1=y;unfold yf at hy
 try simp only[ze.eta,zk]
 repeat' (first|with_reducible refine vl hy hc (λ_ hy hc=>?_) (λ_ hy hc=>?_)|with_reducible refine dn hy (λ_ hy=>?_) (λ_ hy=>?_)|with_reducible refine iK hc (λhc=>?_)|with_reducible refine zK ?_)
 all_goals(subst hy;first|(change Reach _ _ _ _ _ _;apply SQ g c hg hC<;>first|assumption|exact hc)|rfl)
mutual
def zM:Nat->Sem Q5->Sem (Sh.sl zi)->Sem zg×Sem zg
 |0=>λ_ _=>default
 |n+1=>yf (zM n) (bc n)
def bc:Nat->Sem Q5->Sem (Sh.sl zi)->Bool
 |0=>λ_ _=>Q4
 |n+1=>Bq (zM n) (bc n)
end
theorem Sv:∀n,FK 206 (zN [Q5,Sh.sl zi] [zg,zg] (λx=>bc n x.1 x.2.1) λx=>((zM n x.1 x.2.1).1,(zM n x.1 x.2.1).2,()))
 |0=>eY ⟨Tryz.f206,(C5 default default).1,(C5 default default).2.1,(C5 default default).2.2.1⟩ (λ_=>rfl)
 |n+1=>zd2 (zM n) (bc n) (Sv n)
def F51:zV:=zN [Q5,Sh.sl zi] [zg,zg] (λx=>bc 16 x.1 x.2.1) λx=>((zM 16 x.1 x.2.1).1,(zM 16 x.1 x.2.1).2,())
theorem zjh:FK 206 F51:=Sv 16
noncomputable def Fo:=TD.add 206 F51
theorem qK:zt Fo:=Fm.add zjh
end Cad
