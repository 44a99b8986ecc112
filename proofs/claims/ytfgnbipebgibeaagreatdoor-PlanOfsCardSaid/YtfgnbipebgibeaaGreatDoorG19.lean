/- Statements: the document's text of a MIGRATE goes just if the program's does. Statements: a MIGRATE may be, by the document, just if it may be by the program. The program's sameness of plans: they are the same. The document's rows that fit are the program's. The document's tables with rows: no value twice, keys, places of keys. The document's tables with rows that may be are the program's. The document's bases that may be are the program's. A plan's target may be. -/
import Derived.Test.YtfgnbipebgibeaaGreatDoorG18
import Derived.Test.YtfgnbipebgibeaaGreatDoorG13
import Derived.Test.YtfgnbipebgibeaaGreatDoorG14
import Derived.Test.YtfgnbipebgibeaaGreatDoorG16
import Derived.Test.YtfgnbipebgibeaaGreatDoorG17
namespace Cad
open Go Go.Proofs
open Int (toNat)
open List (getD)
open List (length)
set_option maxHeartbeats 4000000

theorem rr {α:Type} (p:α→Bool):∀ (l:List α) (i:Nat),(!decide (aj p l i ≥ 0))=true↔∀ x∈l,p x=false
 | [],i=>by
  refine ⟨fun _ x hx=>(by cases hx),fun _=>?_⟩
  rw [aj]
  rfl
 | y::r,i=>by
  refine ⟨fun h=>nT p _ i h,fun h=>?_⟩
  rw [aj,h y (by simp)]
  exact (rr p r (i+1)).2 fun x hx=>h x (by simp [hx])

theorem rF {x:Sem zk} (h4:x.2.2.2.1.length≤1000) (h5:x.2.2.2.2.1.length≤1000) (h7:x.2.2.2.2.2.2.1.length≤1000) (h8:x.2.2.2.2.2.2.2.1.length≤1000) (h10:x.2.2.2.2.2.2.2.2.2.1.length≤1000) (h11:x.2.2.2.2.2.2.2.2.2.2.1.length≤1000):
  dZ x=true↔x.2.1=[]∧x.2.2.1=[]∧x.2.2.2.2.2.1=[]∧x.2.2.2.2.2.2.2.2.2.2.2.2=[]∧x.2.2.2.1=[]∧x.2.2.2.2.1=[]∧x.2.2.2.2.2.2.1=[]∧x.2.2.2.2.2.2.2.1=[]∧x.2.2.2.2.2.2.2.2.2.1=[]∧x.2.2.2.2.2.2.2.2.2.2.1=[]∧x.2.2.2.2.2.2.2.2.1=dm∧x.2.2.2.2.2.2.2.2.2.2.2.1=dm:=by
 unfold dZ
 have hw:(IntKind.i64.wrap (IntKind.i64.wrap (IntKind.i64.wrap (IntKind.i64.wrap (IntKind.i64.wrap ((↑(length x.2.2.2.1):Int)+(↑(length x.2.2.2.2.1):Int))+(↑(length x.2.2.2.2.2.2.1):Int))+(↑(length x.2.2.2.2.2.2.2.1):Int))+(↑(length x.2.2.2.2.2.2.2.2.2.1):Int))+(↑(length x.2.2.2.2.2.2.2.2.2.2.1):Int)))=
   ((x.2.2.2.1.length+x.2.2.2.2.1.length+x.2.2.2.2.2.2.1.length+x.2.2.2.2.2.2.2.1.length+x.2.2.2.2.2.2.2.2.2.1.length+x.2.2.2.2.2.2.2.2.2.2.1.length:Nat):Int):=by
  have g:∀ n:Nat,n≤10000→IntKind.i64.wrap (n:Int)=(n:Int):=fun n hn=>QB n (by omega)
  rw [← rP,g _ (by omega),← rP,g _ (by omega),← rP,g _ (by omega),← rP,g _ (by omega),← rP,g _ (by omega)]
 rw [hw]
 constructor
 ·intro h
  obtain ⟨k1,h⟩:=bW h
  obtain ⟨k2,h⟩:=bW h
  obtain ⟨k3,k4⟩:=bW h
  simp only [bb,List.append_eq_nil_iff] at k1
  obtain ⟨⟨⟨a1,a2⟩,a3⟩,a4⟩:=k1
  have k2:x.2.2.2.1.length+x.2.2.2.2.1.length+x.2.2.2.2.2.2.1.length+x.2.2.2.2.2.2.2.1.length+x.2.2.2.2.2.2.2.2.2.1.length+x.2.2.2.2.2.2.2.2.2.2.1.length=0:=by
   have:=bB k2
   exact Int.ofNat.inj this
  refine ⟨a1,a2,a3,a4,?_,?_,?_,?_,?_,?_,il.1 k3,il.1 k4⟩ <;> exact t7 (by omega)
 ·rintro ⟨a1,a2,a3,a4,a5,a6,a7,a8,a9,a10,a11,a12⟩
  rw [a1,a2,a3,a4,a5,a6,a7,a8,a9,a10,a11,a12,show fR dm=true from rfl]
  rfl

theorem Qq (s:Sem zk):dK s=(gq s&&((cut (gU s)).2==0)):=by
 unfold dK oz
 cases gq s
 ·rfl
 ·show ((if ((cut (gU s)).2 != 0)=true then (([],1):Sem Sh.str×Sem zf) else (gU s,0)).2==0)=_
  cases h:((cut (gU s)).2==0)
  ·have:((cut (gU s)).2 != 0)=true:=by simp only [bne,h]; rfl
   rw [if_pos this]; rfl
  ·have:((cut (gU s)).2 != 0)=false:=by simp only [bne,h]; rfl
   rw [this]; rfl

theorem Pi (s:zw):cd s=zJ s:=rfl

theorem Dh {s:Sem zk} (h:nm s) {t:zw} {own:Sem zk} {ok:Bool} (hw:dd s=some (t,own,ok,())) (hl:t.length≤900000) (hc:xr own):
  ∃ t',mP s=some (t',(ok&&(zJ s.2.1&&(eJ own s&&((cut t).2==(0:Int))))),()):=by
 have hn:=h.sh.table
 have e1:tr s=true:=by unfold tr; rw [hw]; rfl
 have e2:wY s=(t,own,ok):=by unfold wY; rw [hw]; rfl
 obtain ⟨s1,_⟩:=pH (b:=s) hc
 have n1:=bm (s:=s.2.1) (by omega)
 have n2:=eA (s:=s.2.1) (by omega)
 have k1:=P7 (s:=t) (by omega)
 have k2:=SP (s:=t) (by omega)
 have es:tr (s.1,s.2.1,s.2.2.1,s.2.2.2.1,s.2.2.2.2.1,s.2.2.2.2.2.1,s.2.2.2.2.2.2.1,s.2.2.2.2.2.2.2.1,s.2.2.2.2.2.2.2.2.1,s.2.2.2.2.2.2.2.2.2.1,s.2.2.2.2.2.2.2.2.2.2.1,s.2.2.2.2.2.2.2.2.2.2.2.1,s.2.2.2.2.2.2.2.2.2.2.2.2)=true:=e1
 have ew:wY (s.1,s.2.1,s.2.2.1,s.2.2.2.1,s.2.2.2.2.1,s.2.2.2.2.2.1,s.2.2.2.2.2.2.1,s.2.2.2.2.2.2.2.1,s.2.2.2.2.2.2.2.2.1,s.2.2.2.2.2.2.2.2.2.1,s.2.2.2.2.2.2.2.2.2.2.1,s.2.2.2.2.2.2.2.2.2.2.2.1,s.2.2.2.2.2.2.2.2.2.2.2.2)=(t,own,ok):=e2
 have ss:wW (own.1,own.2.1,own.2.2.1,own.2.2.2.1,own.2.2.2.2.1,own.2.2.2.2.2.1,own.2.2.2.2.2.2.1,own.2.2.2.2.2.2.2.1,own.2.2.2.2.2.2.2.2.1,own.2.2.2.2.2.2.2.2.2.1,own.2.2.2.2.2.2.2.2.2.2.1,own.2.2.2.2.2.2.2.2.2.2.2.1,own.2.2.2.2.2.2.2.2.2.2.2.2) (s.1,s.2.1,s.2.2.1,s.2.2.2.1,s.2.2.2.2.1,s.2.2.2.2.2.1,s.2.2.2.2.2.2.1,s.2.2.2.2.2.2.2.1,s.2.2.2.2.2.2.2.2.1,s.2.2.2.2.2.2.2.2.2.1,s.2.2.2.2.2.2.2.2.2.2.1,s.2.2.2.2.2.2.2.2.2.2.2.1,s.2.2.2.2.2.2.2.2.2.2.2.2)=true:=s1
 have sv:eJ (own.1,own.2.1,own.2.2.1,own.2.2.2.1,own.2.2.2.2.1,own.2.2.2.2.2.1,own.2.2.2.2.2.2.1,own.2.2.2.2.2.2.2.1,own.2.2.2.2.2.2.2.2.1,own.2.2.2.2.2.2.2.2.2.1,own.2.2.2.2.2.2.2.2.2.2.1,own.2.2.2.2.2.2.2.2.2.2.2.1,own.2.2.2.2.2.2.2.2.2.2.2.2) (s.1,s.2.1,s.2.2.1,s.2.2.2.1,s.2.2.2.2.1,s.2.2.2.2.2.1,s.2.2.2.2.2.2.1,s.2.2.2.2.2.2.2.1,s.2.2.2.2.2.2.2.2.1,s.2.2.2.2.2.2.2.2.2.1,s.2.2.2.2.2.2.2.2.2.2.1,s.2.2.2.2.2.2.2.2.2.2.2.1,s.2.2.2.2.2.2.2.2.2.2.2.2)=eJ own s:=rfl
 have hv:∃ t' b,(XE s).val=some (.inr (.tup [.str t',b],[]))∧(b=.kb true∧(ok&&(zJ s.2.1&&(eJ own s&&((cut t).2==(0:Int)))))=true∨(b=.kb false∧(ok&&(zJ s.2.1&&(eJ own s&&((cut t).2==(0:Int)))))=false)):=by
  simp only [XE,Tr.val,zn,es,ew,ss,sv,n1,n2,k1,k2,if_true]
  generalize eJ own s=b1
  generalize zJ s.2.1=b2
  generalize ((cut t).2==(0:Int))=b3
  cases ok <;> cases b2 <;> cases b1 <;> cases b3 <;> first | exact ⟨_,_,rfl,.inl ⟨rfl,rfl⟩⟩ | exact ⟨_,_,rfl,.inr ⟨rfl,rfl⟩⟩
 obtain ⟨t',b,hv,hb⟩:=hv
 refine ⟨t',zY hv ?_⟩
 rcases hb with ⟨rfl,hb⟩ | ⟨rfl,hb⟩ <;> rw [hb] <;> rfl
theorem Jo {s:Sem zk} (h:nm s):∃ t b,mP s=some (t,b,()):=by
 obtain ⟨t,own,ok,h1,h2,h3⟩:=Jr h
 obtain ⟨t',h4⟩:=Dh h h1 h2 h3
 exact ⟨t',_,h4⟩

theorem KP {s:Sem zk} (h:nm s) (o:s.1=[99,111,112,121]):gq s=(j5 s&&(zJ s.2.1&&eJ (s.1,s.2.1,s.2.2.1,s.2.2.2.1,[],[],[],[],s.2.2.2.2.2.2.2.2.1,[],[],dm,[]) s)):=by
 have hn:=h.sh.names.1
 have hc:=h.sh.cols.1
 have hq:=h.sh.uniques.1
 have hr:=h.sh.refs.1
 have hw:=h.sh.row
 have hs:=h.sh.sets.1
 obtain ⟨p0,p1,p2,p3,p4,p5,p6,p7,p8,p9,p10⟩:=SG o
 obtain ⟨_,hp⟩:=iC (s:=s) (g:=_) (b:=_) (by simp only [sq,Tr.val,p0,p1,p2,p3,p4,p5,p6,p7,p8,p9,p10,if_true,if_false,zV,zn]; exact rfl)
 obtain ⟨_,hsame⟩:=pH (a:=(s.1,s.2.1,s.2.2.1,s.2.2.2.1,[],[],[],[],s.2.2.2.2.2.2.2.2.1,[],[],dm,[])) (b:=s) (dT h (.inl rfl) (.inr rfl) (.inr rfl) (.inr rfl) (.inl rfl) (.inr rfl) (.inr rfl) (.inr rfl))
 have hem:=rF (x:=(s.1,[],[],[],s.2.2.2.2.1,s.2.2.2.2.2.1,s.2.2.2.2.2.2.1,s.2.2.2.2.2.2.2.1,dm,s.2.2.2.2.2.2.2.2.2.1,s.2.2.2.2.2.2.2.2.2.2.1,s.2.2.2.2.2.2.2.2.2.2.2.1,s.2.2.2.2.2.2.2.2.2.2.2.2)) (by simp) (by simpa using eX hc (by omega)) (by simpa using eX hq (by omega)) (by simpa using eX hr (by omega)) (by simpa using eX hw (by omega)) (by simpa using eX hs (by omega))
 have hec:dM (s.1,[],[],[],s.2.2.2.2.1,s.2.2.2.2.2.1,s.2.2.2.2.2.2.1,s.2.2.2.2.2.2.2.1,dm,s.2.2.2.2.2.2.2.2.2.1,s.2.2.2.2.2.2.2.2.2.2.1,s.2.2.2.2.2.2.2.2.2.2.2.1,s.2.2.2.2.2.2.2.2.2.2.2.2)=true:=fy (by simp) (by simp) (by have:=h.sh.key; simpa using this) (by have:=h.sh.role; simpa using this)
 rw [hp]
 apply iN.2
 have hown:eJ (s.1,s.2.1,s.2.2.1,s.2.2.2.1,[],[],[],[],s.2.2.2.2.2.2.2.2.1,[],[],dm,[]) s=true↔dZ (s.1,[],[],[],s.2.2.2.2.1,s.2.2.2.2.2.1,s.2.2.2.2.2.2.1,s.2.2.2.2.2.2.2.1,dm,s.2.2.2.2.2.2.2.2.2.1,s.2.2.2.2.2.2.2.2.2.2.1,s.2.2.2.2.2.2.2.2.2.2.2.1,s.2.2.2.2.2.2.2.2.2.2.2.2)=true:=by
  rw [hsame,hem]
  obtain ⟨s1,s2,s3,s4,s5,s6,s7,s8,s9,s10,s11,s12,s13⟩:=s
  simp only [ba,true_and]
  constructor
  ·intro k
   simp_all
  ·intro k
   simp_all
 have hix:=rr (fun x => !cd x) s.2.2.2.1 0
 have hnm:(!decide (aj (fun x => !cd x) s.2.2.2.1 0 ≥ 0))=decide (∀ x∈s.2.2.2.1,zJ x=true):=by
  apply iN.2
  rw [hix,decide_eq_true_iff]
  exact ⟨fun k x hx=>by have:=k x hx; simpa [Pi] using this,fun k x hx=>by have:=k x hx; simpa [Pi] using this⟩
 have hlb:(bif decide ((↑(length s.2.2.2.1):Int) < 1) then true else decide ((↑(length s.2.2.2.1):Int) > 8)) = !(decide (1≤s.2.2.2.1.length)&&decide (s.2.2.2.1.length≤8)):=by
  by_cases a:1≤s.2.2.2.1.length
  ·rw [ao (show ¬ (↑(length s.2.2.2.1):Int) < 1 by omega),zu a]
   by_cases b:s.2.2.2.1.length≤8
   ·rw [ao (show ¬ (↑(length s.2.2.2.1):Int) > 8 by omega),zu b]; rfl
   ·rw [zu (show (↑(length s.2.2.2.1):Int) > 8 by omega),ao b]; rfl
  ·rw [zu (show (↑(length s.2.2.2.1):Int) < 1 by omega),ao a]; rfl
 rw [hnm,hlb,hec]
 unfold j5
 rw [show cd s.2.1=zJ s.2.1 from rfl,show cd s.2.2.1=zJ s.2.2.1 from rfl]
 rw [iN.2 hown]
 generalize dZ _=b1
 generalize bw s.2.2.2.2.2.2.2.2.1=b2
 generalize zJ s.2.1=b3
 generalize zJ s.2.2.1=b4
 generalize decide (∀ x∈s.2.2.2.1,zJ x=true)=b5
 generalize (decide (1≤s.2.2.2.1.length)&&decide (s.2.2.2.1.length≤8))=b6
 cases b1 <;> cases b2 <;> cases b3 <;> cases b4 <;> cases b5 <;> cases b6 <;> simp

theorem KQ {s:Sem zk} (h:nm s) (o:s.1=[106,111,105,110]):gq s=(mD s&&(zJ s.2.1&&eJ (s.1,s.2.1,s.2.2.1,[],[],s.2.2.2.2.2.1,[],[],s.2.2.2.2.2.2.2.2.1,[],[],dm,s.2.2.2.2.2.2.2.2.2.2.2.2) s)):=by
 have hn:=h.sh.names.1
 have hc:=h.sh.cols.1
 have hq:=h.sh.uniques.1
 have hr:=h.sh.refs.1
 have hw:=h.sh.row
 have hs:=h.sh.sets.1
 obtain ⟨p0,p1,p2,p3,p4,p5,p6,p7,p8,p9,p10,p11⟩:=SH o
 obtain ⟨_,hp⟩:=iC (s:=s) (g:=_) (b:=_) (by simp only [sq,Tr.val,p0,p1,p2,p3,p4,p5,p6,p7,p8,p9,p10,p11,if_true,if_false,zV,zn]; exact rfl)
 obtain ⟨_,hsame⟩:=pH (a:=(s.1,s.2.1,s.2.2.1,[],[],s.2.2.2.2.2.1,[],[],s.2.2.2.2.2.2.2.2.1,[],[],dm,s.2.2.2.2.2.2.2.2.2.2.2.2)) (b:=s) (dT h (.inr rfl) (.inr rfl) (.inr rfl) (.inr rfl) (.inl rfl) (.inr rfl) (.inr rfl) (.inr rfl))
 have hem:=rF (x:=(s.1,[],[],s.2.2.2.1,s.2.2.2.2.1,[],s.2.2.2.2.2.2.1,s.2.2.2.2.2.2.2.1,dm,s.2.2.2.2.2.2.2.2.2.1,s.2.2.2.2.2.2.2.2.2.2.1,s.2.2.2.2.2.2.2.2.2.2.2.1,[])) (by simpa using eX hn (by omega)) (by simpa using eX hc (by omega)) (by simpa using eX hq (by omega)) (by simpa using eX hr (by omega)) (by simpa using eX hw (by omega)) (by simpa using eX hs (by omega))
 have hec:dM (s.1,[],[],s.2.2.2.1,s.2.2.2.2.1,[],s.2.2.2.2.2.2.1,s.2.2.2.2.2.2.2.1,dm,s.2.2.2.2.2.2.2.2.2.1,s.2.2.2.2.2.2.2.2.2.2.1,s.2.2.2.2.2.2.2.2.2.2.2.1,[])=true:=fy (by simp) (by simp) (by simp) (by simp)
 rw [hp]
 apply iN.2
 have hown:eJ (s.1,s.2.1,s.2.2.1,[],[],s.2.2.2.2.2.1,[],[],s.2.2.2.2.2.2.2.2.1,[],[],dm,s.2.2.2.2.2.2.2.2.2.2.2.2) s=true↔dZ (s.1,[],[],s.2.2.2.1,s.2.2.2.2.1,[],s.2.2.2.2.2.2.1,s.2.2.2.2.2.2.2.1,dm,s.2.2.2.2.2.2.2.2.2.1,s.2.2.2.2.2.2.2.2.2.2.1,s.2.2.2.2.2.2.2.2.2.2.2.1,[])=true:=by
  rw [hsame,hem]
  obtain ⟨s1,s2,s3,s4,s5,s6,s7,s8,s9,s10,s11,s12,s13⟩:=s
  simp only [ba,true_and]
  constructor
  ·intro k
   simp_all
  ·intro k
   simp_all
 rw [hec]
 unfold mD
 rw [show cd s.2.1=zJ s.2.1 from rfl,show cd s.2.2.1=zJ s.2.2.1 from rfl,show cd s.2.2.2.2.2.1=zJ s.2.2.2.2.2.1 from rfl,show cd s.2.2.2.2.2.2.2.2.2.2.2.2=zJ s.2.2.2.2.2.2.2.2.2.2.2.2 from rfl]
 rw [iN.2 hown]
 generalize dZ _=b1
 generalize bw s.2.2.2.2.2.2.2.2.1=b2
 generalize zJ s.2.1=b3
 generalize zJ s.2.2.1=b4
 generalize zJ s.2.2.2.2.2.1=b5
 generalize zJ s.2.2.2.2.2.2.2.2.2.2.2.2=b6
 cases b1 <;> cases b2 <;> cases b3 <;> cases b4 <;> cases b5 <;> cases b6 <;> simp

theorem Hf {s:Sem zk} (h:nm s) (o:s.1=[103,114,111,117,112]):gq s=(f6 s&&(zJ s.2.1&&eJ (s.1,s.2.1,s.2.2.1,s.2.2.2.1,[],[],[],[],s.2.2.2.2.2.2.2.2.1,[],[],dm,[]) s)):=by
 have hn:=h.sh.names.1
 have hc:=h.sh.cols.1
 have hq:=h.sh.uniques.1
 have hr:=h.sh.refs.1
 have hw:=h.sh.row
 have hs:=h.sh.sets.1
 obtain ⟨p0,p1,p2,p3,p4,p5,p6,p7,p8,p9,p10,p11,p12⟩:=PI o
 obtain ⟨_,hp⟩:=iC (s:=s) (g:=_) (b:=_) (by simp only [sq,Tr.val,p0,p1,p2,p3,p4,p5,p6,p7,p8,p9,p10,p11,p12,if_true,if_false,zV,zn]; exact rfl)
 obtain ⟨_,hsame⟩:=pH (a:=(s.1,s.2.1,s.2.2.1,s.2.2.2.1,[],[],[],[],s.2.2.2.2.2.2.2.2.1,[],[],dm,[])) (b:=s) (dT h (.inl rfl) (.inr rfl) (.inr rfl) (.inr rfl) (.inl rfl) (.inr rfl) (.inr rfl) (.inr rfl))
 have hem:=rF (x:=(s.1,[],[],[],s.2.2.2.2.1,s.2.2.2.2.2.1,s.2.2.2.2.2.2.1,s.2.2.2.2.2.2.2.1,dm,s.2.2.2.2.2.2.2.2.2.1,s.2.2.2.2.2.2.2.2.2.2.1,s.2.2.2.2.2.2.2.2.2.2.2.1,s.2.2.2.2.2.2.2.2.2.2.2.2)) (by simp) (by simpa using eX hc (by omega)) (by simpa using eX hq (by omega)) (by simpa using eX hr (by omega)) (by simpa using eX hw (by omega)) (by simpa using eX hs (by omega))
 have hec:dM (s.1,[],[],[],s.2.2.2.2.1,s.2.2.2.2.2.1,s.2.2.2.2.2.2.1,s.2.2.2.2.2.2.2.1,dm,s.2.2.2.2.2.2.2.2.2.1,s.2.2.2.2.2.2.2.2.2.2.1,s.2.2.2.2.2.2.2.2.2.2.2.1,s.2.2.2.2.2.2.2.2.2.2.2.2)=true:=fy (by simp) (by simp) (by have:=h.sh.key; simpa using this) (by have:=h.sh.role; simpa using this)
 rw [hp]
 apply iN.2
 have hown:eJ (s.1,s.2.1,s.2.2.1,s.2.2.2.1,[],[],[],[],s.2.2.2.2.2.2.2.2.1,[],[],dm,[]) s=true↔dZ (s.1,[],[],[],s.2.2.2.2.1,s.2.2.2.2.2.1,s.2.2.2.2.2.2.1,s.2.2.2.2.2.2.2.1,dm,s.2.2.2.2.2.2.2.2.2.1,s.2.2.2.2.2.2.2.2.2.2.1,s.2.2.2.2.2.2.2.2.2.2.2.1,s.2.2.2.2.2.2.2.2.2.2.2.2)=true:=by
  rw [hsame,hem]
  obtain ⟨s1,s2,s3,s4,s5,s6,s7,s8,s9,s10,s11,s12,s13⟩:=s
  simp only [ba,true_and]
  constructor
  ·intro k
   simp_all
  ·intro k
   simp_all
 have hix:=rr (fun x => !cd x) s.2.2.2.1 0
 have hlb:(bif bif decide ((↑(length s.2.2.2.1):Int) < 2) then true else decide ((↑(length s.2.2.2.1):Int) > 2) then false else bif !decide (aj (fun x => !cd x) s.2.2.2.1 0 ≥ 0) then bw s.2.2.2.2.2.2.2.2.1 else false)=(decide (s.2.2.2.1.length=2)&&(bw s.2.2.2.2.2.2.2.2.1&&(zJ (s.2.2.2.1.getD 0 [])&&zJ (s.2.2.2.1.getD 1 [])))):=by
  by_cases a:s.2.2.2.1.length=2
  ·rw [ao (show ¬ (↑(length s.2.2.2.1):Int) < 2 by omega),ao (show ¬ (↑(length s.2.2.2.1):Int) > 2 by omega),zu a]
   have hnm:(!decide (aj (fun x => !cd x) s.2.2.2.1 0 ≥ 0))=(zJ (s.2.2.2.1.getD 0 [])&&zJ (s.2.2.2.1.getD 1 [])):=by
    apply iN.2
    rw [hix,aV]
    obtain ⟨s1,s2,s3,s4,s5⟩:=s
    match s4,a with
    | [x,y],_=>simp [Pi]
   rw [hnm]
   cases bw s.2.2.2.2.2.2.2.2.1 <;> cases zJ (s.2.2.2.1.getD 0 []) <;> cases zJ (s.2.2.2.1.getD 1 []) <;> rfl
  ·rw [ao a]
   by_cases b:(↑(length s.2.2.2.1):Int) < 2
   ·rw [zu b]; rfl
   ·rw [ao b,zu (show (↑(length s.2.2.2.1):Int) > 2 by omega)]; rfl
 rw [hlb,hec]
 unfold f6
 rw [show cd s.2.1=zJ s.2.1 from rfl,show cd s.2.2.1=zJ s.2.2.1 from rfl]
 rw [iN.2 hown]
 generalize dZ _=b1
 generalize bw s.2.2.2.2.2.2.2.2.1=b2
 generalize zJ s.2.1=b3
 generalize zJ s.2.2.1=b4
 generalize zJ (s.2.2.2.1.getD 0 [])=b5
 generalize zJ (s.2.2.2.1.getD 1 [])=b6
 generalize decide (s.2.2.2.1.length=2)=b7
 cases b1 <;> cases b2 <;> cases b3 <;> cases b4 <;> cases b5 <;> cases b6 <;> cases b7 <;> simp


theorem BJ (l:List zw):fV l=Lib.join l [32,44,32]:=by
 have h:=oB l 0 []
 unfold fV
 rw [h]
 have e:l.map kQ=l:=by
  rw [show (kQ:zw→zw)=id from rfl]
  exact List.map_id l
 rw [List.nil_append,e]

theorem SW {s:Sem zk} (h:nm s) (o:s.1=[99,111,112,121]) (hk:j5 s=true):gU s=JL s:=by
 unfold j5 at hk
 simp only [aV,aN] at hk
 rw [(gV (Vc h.sh o)).2,tC,xS hk.2.1,BJ]
 unfold JL
 simp

theorem SX {s:Sem zk} (h:nm s) (o:s.1=[106,111,105,110]) (hk:mD s=true):gU s=oK s:=by
 unfold mD at hk
 simp only [aV] at hk
 rw [(gV (Ve h.sh o)).2,tJ,xS hk.1]
 unfold oK
 simp

theorem Qx {s:Sem zk} (h:nm s) (o:s.1=[103,114,111,117,112]) (hk:f6 s=true):gU s=kR s:=by
 unfold f6 at hk
 simp only [aV,aN] at hk
 rw [(gV (Vd h.sh o hk.1)).2,tG,xS hk.2.1]
 unfold kR
 simp

theorem Jp {s:Sem zk} (h:nm s) (hm:kK s.1):∃ t,mP s=some (t,dK s,()):=by
 have key:∀ (own:Sem zk) (ok:Bool) (t tx:zw),dd s=some (t,own,ok,())→t.length≤900000→xr own→(ok=true→t=tx)→(ok=true→gU s=tx)→gq s=(ok&&(zJ s.2.1&&eJ own s))→∃ t,mP s=some (t,dK s,()):=by
  intro own ok t tx h1 h2 h3 h4 h5 h6
  obtain ⟨t',h7⟩:=Dh h h1 h2 h3
  refine ⟨t',?_⟩
  rw [h7,Qq,h6]
  cases hk:ok
  ·rfl
  ·rw [h5 hk,h4 hk]
   cases zJ s.2.1 <;> cases eJ own s <;> rfl
 rcases hm with o | o | o
 ·obtain ⟨t,h1,h2,h3⟩:=Lp h o
  exact key _ _ _ _ h1 h2 (dT h (.inl rfl) (.inr rfl) (.inr rfl) (.inr rfl) (.inl rfl) (.inr rfl) (.inr rfl) (.inr rfl)) h3 (SW h o) (KP h o)
 ·obtain ⟨h1,h2⟩:=Lq h o
  exact key _ _ _ _ h1 h2 (dT h (.inr rfl) (.inr rfl) (.inr rfl) (.inr rfl) (.inl rfl) (.inr rfl) (.inr rfl) (.inr rfl)) (fun _=>rfl) (SX h o) (KQ h o)
 ·obtain ⟨t,h1,h2,h3⟩:=H3 h o
  exact key _ _ _ _ h1 h2 (dT h (.inl rfl) (.inr rfl) (.inr rfl) (.inr rfl) (.inl rfl) (.inr rfl) (.inr rfl) (.inr rfl)) h3 (Qx h o) (Hf h o)

theorem Kg {g c:ze→ze→Bool}:∀ (l m:List ze),l.length=m.length→(∀ x∈l,∀ y,c x y=true∧(g x y=true↔x=y))→L9 g c l m=true∧(R5 g l m=true↔l=m)
 | [],[],_,_=>⟨rfl,by simp [R5]⟩
 | [],_::_,h,_=>by simp at h
 | _::_,[],h,_=>by simp at h
 | x::r,y::q,h,hx=>by
  obtain ⟨c1,g1⟩:=hx x (by simp) y
  obtain ⟨c2,g2⟩:=Kg r q (by simpa using h) (fun z hz=>hx z (by simp [hz]))
  rw [L9,R5]
  rw [c1]
  by_cases k:g x y=true
  ·have:=g1.1 k
   subst this
   simp [k,c2,g2]
  ·have hne:x≠y:=fun e=>k (g1.2 e)
   simp [k,hne]

theorem AW:∀ (N:Nat) (a b:ze),kw N a=true→gW N a b=true∧(eQ N a b=true↔a=b)
 | 0,_,_,h=>by cases h
 | N + 1,.mk op v s l,.mk op' v' s' l',h=>by
  rw [kw] at h
  simp only [aV,aN,fE] at h
  obtain ⟨_,ha⟩:=h
  have e1:gW (N+1) (.mk op v s l) (.mk op' v' s' l')=(bif op==op' then bif QG v v' then bif s==s' then vE (eQ N) (gW N) l l' else true else true else true):=rfl
  have e2:eQ (N+1) (.mk op v s l) (.mk op' v' s' l')=(bif op==op' then bif QG v v' then bif s==s' then Iv (eQ N) l l' else false else false else false):=rfl
  rw [e1,e2]
  unfold vE Iv
  have hV:QG v v'=true↔v=v':=by unfold QG; simp [Prod.ext_iff]
  by_cases h1:op=op'
  ·by_cases h2:v=v'
   ·by_cases h3:s=s'
    ·by_cases h4:l.length=l'.length
     ·obtain ⟨k1,k2⟩:=Kg (g:=eQ N) (c:=gW N) l l' h4 (fun x hx y=>AW N x y (ha x hx))
      have hb:((↑l.length:Int) != (↑l'.length:Int))=false:=by rw [← ji,iF]; exact fun h=>h h4
      rw [hb,hV.2 h2]
      simp [h1,h3,k1,k2,h2]
     ·have hb:((↑l.length:Int) != (↑l'.length:Int))=true:=iF.2 h4
      have hne:l≠l':=fun e=>h4 (by rw [e])
      rw [hb,hV.2 h2]
      simp [h1,h3,hne]
    ·rw [hV.2 h2]
     simp [h1,h3]
   ·have:QG v v'=false:=by rw [← ji,hV]; exact h2
    rw [this]
    simp [h1,h2]
  ·simp [h1]

theorem HT {a b:List Int} (h:a.length≤1000000):Fb a b=true∧(nh a b=true↔a=b):=by
 have key:∃ r,Fc a b=some (r,())∧(r=true↔a=b):=by
  by_cases hl:a.length=b.length
  ·have hb:((↑(length a):Int) != (↑(length b):Int))=false:=by rw [← ji,iF]; exact fun h=>h hl
   have hi:(Si a b).val=some (.inl (.h4 a b (a.length:Int) 0)):=by
    simp only [Si,Tr.val,hb]
    rfl
   rcases fZ (t:=zee) (la:=a) (lb:=b) (fun i=>.h4 a b (a.length:Int) i) (.inr (.kb true,[])) (fun i=>getD a (i:Int).toNat (zi zf)==getD b (i:Int).toNat (zi zf)) (fun _ _=>rfl) (fun i _ ha hb=>by rw [bb,zX _ _ ha,zX _ _ hb]) hl h with ⟨q5,k5⟩ | ⟨q5,k5⟩
   ·exact ⟨true,zD hi (k5 0 _ rfl) (by omega) rfl,by simp [q5]⟩
   ·exact ⟨false,zD hi k5 (by omega) rfl,by simp [q5]⟩
  ·refine ⟨false,zY (r:=wo) ?_ rfl,by simp; exact fun e=>hl (by rw [e])⟩
   simp only [Si,Tr.val,iF.2 hl,if_true]
 obtain ⟨r,h1,h2⟩:=key
 refine ⟨by unfold Fb; rw [h1]; rfl,?_⟩
 have:nh a b=r:=by unfold nh; rw [h1]; rfl
 rw [this]; exact h2
theorem Qn {a b:List (Sem zh)} (h:a.length≤1000000):Jy a b=true∧(v8 a b=true↔a=b):=by
 have key:∃ r,E9 a b=some (r,())∧(r=true↔a=b):=by
  by_cases hl:a.length=b.length
  ·have hb:((↑(length a):Int) != (↑(length b):Int))=false:=by rw [← ji,iF]; exact fun h=>h hl
   have hi:(Sl a b).val=some (.inl (.h4 a b (a.length:Int) 0)):=by
    simp only [Sl,Tr.val,hb]
    rfl
   rcases fZ (t:=zeg) (la:=a) (lb:=b) (fun i=>.h4 a b (a.length:Int) i) (.inr (.kb true,[])) (fun i=>((getD a (i:Int).toNat (zi zh)).1==(getD b (i:Int).toNat (zi zh)).1&&((getD a (i:Int).toNat (zi zh)).2.1==(getD b (i:Int).toNat (zi zh)).2.1&&((getD a (i:Int).toNat (zi zh)).2.2==(getD b (i:Int).toNat (zi zh)).2.2&&true)))) (fun _ _=>rfl) (fun i _ ha hb=>by rw [Ih,zX _ _ ha,zX _ _ hb]) hl h with ⟨q5,k5⟩ | ⟨q5,k5⟩
   ·exact ⟨true,zD hi (k5 0 _ rfl) (by omega) rfl,by simp [q5]⟩
   ·exact ⟨false,zD hi k5 (by omega) rfl,by simp [q5]⟩
  ·refine ⟨false,zY (r:=wo) ?_ rfl,by simp; exact fun e=>hl (by rw [e])⟩
   simp only [Sl,Tr.val,iF.2 hl,if_true]
 obtain ⟨r,h1,h2⟩:=key
 refine ⟨by unfold Jy; rw [h1]; rfl,?_⟩
 have:v8 a b=r:=by unfold v8; rw [h1]; rfl
 rw [this]; exact h2
theorem Qo {a b:List (Sem zq)} (h:a.length≤1000000):Jz a b=true∧(wa a b=true↔a=b):=by
 have key:∃ r,Fa a b=some (r,())∧(r=true↔a=b):=by
  by_cases hl:a.length=b.length
  ·have hb:((↑(length a):Int) != (↑(length b):Int))=false:=by rw [← ji,iF]; exact fun h=>h hl
   have hi:(Sm a b).val=some (.inl (.h4 a b (a.length:Int) 0)):=by
    simp only [Sm,Tr.val,hb]
    rfl
   rcases fZ (t:=zeh) (la:=a) (lb:=b) (fun i=>.h4 a b (a.length:Int) i) (.inr (.kb true,[])) (fun i=>((getD a (i:Int).toNat (zi zq)).1==(getD b (i:Int).toNat (zi zq)).1&&((getD a (i:Int).toNat (zi zq)).2==(getD b (i:Int).toNat (zi zq)).2&&true))) (fun _ _=>rfl) (fun i _ ha hb=>by rw [Of,zX _ _ ha,zX _ _ hb]) hl h with ⟨q5,k5⟩ | ⟨q5,k5⟩
   ·exact ⟨true,zD hi (k5 0 _ rfl) (by omega) rfl,by simp [q5]⟩
   ·exact ⟨false,zD hi k5 (by omega) rfl,by simp [q5]⟩
  ·refine ⟨false,zY (r:=wo) ?_ rfl,by simp; exact fun e=>hl (by rw [e])⟩
   simp only [Sm,Tr.val,iF.2 hl,if_true]
 obtain ⟨r,h1,h2⟩:=key
 refine ⟨by unfold Jz; rw [h1]; rfl,?_⟩
 have:wa a b=r:=by unfold wa; rw [h1]; rfl
 rw [this]; exact h2

theorem Qv {a b:Sem zl} (hc:a.2.1.length≤1000000) (hu:a.2.2.2.1.length≤1000000) (hr:a.2.2.2.2.1.length≤1000000) (he:kw 16 a.2.2.2.2.2=true):Ft a b=true∧(qE a b=true↔a=b):=by
 obtain ⟨a1,a2,a3,a4,a5,a6⟩:=a
 obtain ⟨b1,b2,b3,b4,b5,b6⟩:=b
 obtain ⟨c1,d1⟩:=Qn (b:=b2) (show a2.length≤1000000 from hc)
 obtain ⟨c2,d2⟩:=HT (b:=b4) (show a4.length≤1000000 from hu)
 obtain ⟨c3,d3⟩:=Qo (b:=b5) (show a5.length≤1000000 from hr)
 obtain ⟨c4,d4⟩:=AW 16 a6 b6 he
 have hv:Fu (a1,a2,a3,a4,a5,a6) (b1,b2,b3,b4,b5,b6)=some ((bif a1==b1 then bif a3==b3 then bif v8 a2 b2 then bif nh a4 b4 then bif wa a5 b5 then eQ 16 a6 b6 else false else false else false else false else false),()):=by
  refine zY (r:=(.bool _,[])) ?_ rfl
  simp only [zb9,Tr.val,zn,c1,c2,c3,c4]
  rw [if_pos]
  cases (a1==b1) <;> cases (a3==b3) <;> cases v8 a2 b2 <;> cases nh a4 b4 <;> cases wa a5 b5 <;> rfl
 refine ⟨by unfold Ft; rw [hv]; rfl,?_⟩
 have:qE (a1,a2,a3,a4,a5,a6) (b1,b2,b3,b4,b5,b6)=(bif a1==b1 then bif a3==b3 then bif v8 a2 b2 then bif nh a4 b4 then bif wa a5 b5 then eQ 16 a6 b6 else false else false else false else false else false):=by unfold qE; rw [hv]; rfl
 rw [this]
 simp only [ba]
 rw [← d1,← d2,← d3,← d4]
 have x1:(a1==b1)=true↔a1=b1:=bb
 have x3:(a3==b3)=true↔a3=b3:=bb
 rw [← x1,← x3]
 cases (a1==b1) <;> cases (a3==b3) <;> cases v8 a2 b2 <;> cases nh a4 b4 <;> cases wa a5 b5 <;> cases eQ 16 a6 b6 <;> simp

theorem PN {a b:Sem aB} (hc:a.2.2.2.1.2.1.length≤1000000) (hu:a.2.2.2.1.2.2.2.1.length≤1000000) (hr:a.2.2.2.1.2.2.2.2.1.length≤1000000) (he:kw 16 a.2.2.2.1.2.2.2.2.2=true) (hx:a.2.2.2.2.1.length≤1000000):I7 a b=true∧(Hd a b=true↔a=b):=by
 obtain ⟨a1,a2,a3,a4,a5,a6⟩:=a
 obtain ⟨b1,b2,b3,b4,b5,b6⟩:=b
 obtain ⟨c1,d1⟩:=Qv (b:=b4) hc hu hr he
 obtain ⟨c2,d2⟩:=HT (b:=b5) (show a5.length≤1000000 from hx)
 have c1':Ft (a4.1,a4.2.1,a4.2.2.1,a4.2.2.2.1,a4.2.2.2.2.1,a4.2.2.2.2.2) (b4.1,b4.2.1,b4.2.2.1,b4.2.2.2.1,b4.2.2.2.2.1,b4.2.2.2.2.2)=true:=c1
 have hs:qE (a4.1,a4.2.1,a4.2.2.1,a4.2.2.2.1,a4.2.2.2.2.1,a4.2.2.2.2.2) (b4.1,b4.2.1,b4.2.2.1,b4.2.2.2.1,b4.2.2.2.2.1,b4.2.2.2.2.2)=qE a4 b4:=rfl
 have hv:Er (a1,a2,a3,a4,a5,a6) (b1,b2,b3,b4,b5,b6)=some ((bif a1==b1 then bif a2==b2 then bif a3==b3 then bif a6==b6 then bif qE a4 b4 then nh a5 b5 else false else false else false else false else false),()):=by
  refine zY (r:=(.bool _,[])) ?_ rfl
  simp only [zb5,Tr.val,zn,c1',hs,c2]
  rw [if_pos]
  cases (a1==b1) <;> cases (a2==b2) <;> cases (a3==b3) <;> cases (a6==b6) <;> cases qE a4 b4 <;> rfl
 refine ⟨by unfold I7; rw [hv]; rfl,?_⟩
 have:Hd (a1,a2,a3,a4,a5,a6) (b1,b2,b3,b4,b5,b6)=(bif a1==b1 then bif a2==b2 then bif a3==b3 then bif a6==b6 then bif qE a4 b4 then nh a5 b5 else false else false else false else false else false):=by unfold Hd; rw [hv]; rfl
 rw [this]
 simp only [ba]
 rw [← d1,← d2]
 have x1:(a1==b1)=true↔a1=b1:=bb
 have x2:(a2==b2)=true↔a2=b2:=bb
 have x3:(a3==b3)=true↔a3=b3:=bb
 have x6:(a6==b6)=true↔a6=b6:=bb
 rw [← x1,← x2,← x3,← x6]
 cases (a1==b1) <;> cases (a2==b2) <;> cases (a3==b3) <;> cases (a6==b6) <;> cases qE a4 b4 <;> cases nh a5 b5 <;> simp

theorem kB.may {t:Sem zl} (h:kB t) (ho:(t.2.2.2.2.2.op==[])=false):cM t.2.2.2.2.2=true:=by
 have hc:=h.chk
 unfold ej at hc
 have hn:eQ 16 t.2.2.2.2.2 uI=false:=by rw [AX,ho]; rfl
 rw [hn,if_neg (by simp)] at hc
 rcases zG (cM t.2.2.2.2.2) with c | c
 ·exact c
 ·have ht:bD t.2.2.2.2.2 t.2.1=(0,1):=by unfold bD; rw [c]; rfl
  rw [ht] at hc
  cases hc

abbrev my (t:Sem zl) (row:List (Sem zg)) (r:List (Sem zg)) (i:Int):Int:=fj t.1 t.2.1 t.2.2.1 t.2.2.2.1 t.2.2.2.2.1 (ze.op t.2.2.2.2.2) (ze.v t.2.2.2.2.2).1 (ze.v t.2.2.2.2.2).2.1 (ze.v t.2.2.2.2.2).2.2 (ze.s t.2.2.2.2.2) (ze.l t.2.2.2.2.2) row r i
abbrev nO (t:Sem zl) (row:List (Sem zg)) (r:List (Sem zg)) (i:Int):Int:=fA row t.1 t.2.1 t.2.2.1 t.2.2.2.1 t.2.2.2.2.1 (ze.op t.2.2.2.2.2) (ze.v t.2.2.2.2.2).1 (ze.v t.2.2.2.2.2).2.1 (ze.v t.2.2.2.2.2).2.2 (ze.s t.2.2.2.2.2) (ze.l t.2.2.2.2.2) r i

theorem IE (t:Sem zl) (row:List (Sem zg)) (i:Int):my t row [] i=if FC (ia t.2.2.2.2.2 t.2.1 row) 0=true then (9:Int) else 0:=by
 have e0:ze.mk (ze.op t.2.2.2.2.2) ((ze.v t.2.2.2.2.2).1,(ze.v t.2.2.2.2.2).2.1,(ze.v t.2.2.2.2.2).2.2) (ze.s t.2.2.2.2.2) (ze.l t.2.2.2.2.2)=t.2.2.2.2.2:=ze.eta _
 unfold my
 rw [fj,e0]
 rfl
theorem vG (t:Sem zl) (row:List (Sem zg)) (x:Sem zg) (r:List (Sem zg)) (i:Nat):my t row (x::r) (i:Int)=if (bif x.1==0 then (getD t.2.1 i (zi zh)).2.2 else false)=true then (8:Int) else if (bif x.1 != 0 then x.1 != (getD t.2.1 i (zi zh)).2.1 else false)=true then 5 else my t row r ((i+1:Nat):Int):=by
 unfold my
 rw [fj]
 simp only [bd]
 rfl

theorem yz {t:Sem zl} {row:List (Sem zg)} (hw:FB t) (hT:kB t) (hr:∀ v∈row,kr v) (hl:row.length=t.2.1.length):∀ (m i:Nat),row.length - i=m→i≤row.length→ah Ba (m+1) (.h9 row (i:Int) (t,())) (.int .i64 (my t row (row.drop i) (i:Int)),[])
 | 0,i,hm,hi=>by
  obtain rfl:i=row.length:=by omega
  have hcl:=hw.ncols
  rw [ey,IE]
  refine ah.of ?_
  have h8:=hT.n8
  rcases zG (t.2.2.2.2.2.op==[]) with c | c
  ·have hm:cM t.2.2.2.2.2=false:=by
    rcases zG (cM t.2.2.2.2.2) with h | h
    ·rw [J8 h] at c; cases c
    ·exact h
   have hv:ia t.2.2.2.2.2 t.2.1 row=(0,0,[]):=by unfold ia; rw [hm]; rfl
   rw [hv]
   simp only [Ba,Tr.val,zH,zn]
   rw [c]
   rfl
  ·have hm:=hT.may c
   have hev:=P3 (cols:=t.2.1) (row:=row) (by omega) hr hw.chk hm
   have hec:wL t.2.2.2.2.2 t.2.1 row=true:=by unfold wL; rw [hev]; rfl
   have hevv:EB t.2.2.2.2.2 t.2.1 row=ia t.2.2.2.2.2 t.2.1 row:=by unfold EB; rw [hev]; rfl
   simp only [Ba,Tr.val,zH,zn,hec,hevv,wH,Ex]
   rw [c]
   show (if true=true then (if FC (ia t.2.2.2.2.2 t.2.1 row) 0=true then some (Sum.inr (AV.int .i64 9,[])) else some (Sum.inr (AV.int .i64 0,[]))) else none:Option (Dy ⊕ aF))=_
   rcases zG (FC (ia t.2.2.2.2.2 t.2.1 row) 0) with k | k <;> rw [k] <;> rfl
 | m+1,i,hm,hi=>by
  have hlt:i < row.length:=by omega
  have h8:=hT.n8
  have ih:=yz hw hT hr hl m (i+1) (by omega) (by omega)
  have hd:row.drop i=getD row i (zi zg)::row.drop (i+1):=by
   rw [dF hlt,aP,zP hlt]; rfl
  rw [hd,vG]
  have hin:zR (i:Int) t.2.1.length=true:=zB (by omega)
  have hv:(Ba (.h9 row (i:Int) (t,()))).val=if (bif (getD row i (zi zg)).1==0 then (getD t.2.1 i (zi zh)).2.2 else false)=true then some (.inr (.int .i64 8,[])) else if (bif (getD row i (zi zg)).1 != 0 then (getD row i (zi zg)).1 != (getD t.2.1 i (zi zh)).2.1 else false)=true then some (.inr (.int .i64 5,[])) else some (.inl (.h9 row ((i+1:Nat):Int) (t,()))):=by
   simp only [Ba,Tr.val,zM hlt,zB hlt,hin,bd,if_true]
   rw [zt i (by unfold zA; omega)]
   cases ((getD row i (zi zg)).1==0) <;> cases ((getD row i (zi zg)).1 != 0) <;> rfl
  rcases zG (bif (getD row i (zi zg)).1==0 then (getD t.2.1 i (zi zh)).2.2 else false) with c | c
  ·rw [c,if_pos (by rfl)] at hv ⊢
   exact (ah.of hv).mono (by omega)
  ·rw [c,if_neg (by simp)] at hv ⊢
   rcases zG (bif (getD row i (zi zg)).1 != 0 then (getD row i (zi zg)).1 != (getD t.2.1 i (zi zh)).2.1 else false) with c2 | c2
   ·rw [c2,if_pos (by rfl)] at hv ⊢
    exact (ah.of hv).mono (by omega)
   ·rw [c2,if_neg (by simp)] at hv ⊢
    exact (ap.of hv).ends ih

theorem yx {t:Sem zl} {row:List (Sem zg)} (hw:FB t) (hT:kB t) (hr:∀ v∈row,kr v) (hl:row.length=t.2.1.length):∀ (m i:Nat),row.length - i=m→i≤row.length→ah Ba (m+2+row.length) (.h4 row (i:Int) (t,())) (.int .i64 (nO t row (row.drop i) (i:Int)),[])
 | 0,i,hm,hi=>by
  obtain rfl:i=row.length:=by omega
  rw [ey]
  have hv:(Ba (.h4 row (row.length:Int) (t,()))).val=some (.inl (.h9 row ((0:Nat):Int) (t,()))):=by
   simp only [Ba,Tr.val,zH]
   rfl
  have h9:=yz hw hT hr hl row.length 0 (by omega) (by omega)
  have e:nO t row [] (row.length:Int)=my t row (row.drop 0) ((0:Nat):Int):=by
   unfold nO
   rw [fA]
   rfl
  rw [e]
  exact ((ap.of hv).ends h9).mono (by omega)
 | m+1,i,hm,hi=>by
  have hlt:i < row.length:=by omega
  have h8:=hT.n8
  have ih:=yx hw hT hr hl m (i+1) (by omega) (by omega)
  have hd:row.drop i=getD row i (zi zg)::row.drop (i+1):=by
   rw [dF hlt,aP,zP hlt]; rfl
  have hvl:=(hr _ (bG (d:=zi zg) hlt)).2.2
  have e:nO t row (row.drop i) (i:Int)=if (!ce (getD row i (zi zg)))=true then (1:Int) else nO t row (row.drop (i+1)) ((i+1:Nat):Int):=by
   rw [hd]
   unfold nO
   rw [fA]
   rfl
  rw [e]
  have hv:(Ba (.h4 row (i:Int) (t,()))).val=if (!ce (getD row i (zi zg)))=true then some (.inr (.int .i64 1,[])) else some (.inl (.h4 row ((i+1:Nat):Int) (t,()))):=by
   simp only [Ba,Tr.val,zM hlt,zB hlt,bd,if_true,j9 hvl,mH hvl]
   rw [zt i (by unfold zA; omega)]
  rcases zG (!ce (getD row i (zi zg))) with c | c
  ·rw [c,if_pos (by rfl)] at hv ⊢
   exact (ah.of hv).mono (by omega)
  ·rw [c,if_neg (by simp)] at hv ⊢
   exact ((ap.of hv).ends ih).mono (by omega)

theorem Db {t:Sem zl} {row:List (Sem zg)} (hw:FB t) (hr:∀ v∈row,kr v):wR t row=some (eC t row,()):=by
 unfold eC
 have hi:(XG t row).val=if (bif !eD t then true else (row.length:Int) != (t.2.1.length:Int))=true then some (.inr (.int .i64 1,[])) else some (.inl (.h4 row ((0:Nat):Int) (t,()))):=by
  simp only [XG,Tr.val,zn,lP hw,pB hw,if_true]
  rfl
 rcases zG (bif !eD t then true else (row.length:Int) != (t.2.1.length:Int)) with c | c
 ·rw [if_pos c] at hi ⊢
  exact zY hi rfl
 ·rw [if_neg (by rw [c]; simp)] at hi ⊢
  have hm:eD t=true:=by
   rcases zG (eD t) with k | k
   ·exact k
   ·rw [k] at c; cases c
  rw [hm] at c
  have hl:row.length=t.2.1.length:=by
   have:((row.length:Int) != (t.2.1.length:Int))=false:=c
   simp at this; omega
  have hT:=(oG t).1 hm
  have h8:=hT.n8
  exact zD hi (yx hw hT hr hl row.length 0 (by omega) (by omega)) (by omega) rfl
theorem My {t:Sem zl} {row:List (Sem zg)} (hw:FB t) (hr:∀ v∈row,kr v):EI t row=true:=by unfold EI; rw [Db hw hr]; rfl
theorem P5 {t:Sem zl} {row:List (Sem zg)} (hw:FB t) (hr:∀ v∈row,kr v):Jk t row=eC t row:=by unfold Jk; rw [Db hw hr]; rfl

theorem eq3 (a b:Sem zg):(a.1==b.1&&(a.2.1==b.2.1&&(a.2.2==b.2.2&&true)))=true↔a=b:=by
 obtain ⟨k,n,s⟩:=a
 obtain ⟨k',n',s'⟩:=b
 simp

theorem tc {rows:List (List (Sem zg))} {c:Int} (hc:∀ r∈rows,zR c (length r)=true) (hl:rows.length≤1000):∃ b,ta rows c=some (b,())∧(b=false↔pV rows c):=by
 have h2:=lm (t:=BK) (Φ:=fun r=>r=(.kb true,[])) 1002 (fun i=>.h2 rows c (i:Int)) (fun i=>∀ k,k < i→¬ ((aw c (getD rows i (zi zg.sl))).1≠0∧aw c (getD rows i (zi zg.sl))=aw c (getD rows k (zi zg.sl)))) rows.length (by
  intro i hi _
  have hv:(BK (.h2 rows c (i:Int))).val=some (.inl (.h5 rows c (i:Int) ((0:Nat):Int))):=by
   simp only [BK,Tr.val,zM hi]
   rfl
  have h5:=lm (t:=BK) (Φ:=fun r=>r=(.kb true,[])) 1 (fun k=>.h5 rows c (i:Int) (k:Int)) (fun k=>¬ ((aw c (getD rows i (zi zg.sl))).1≠0∧aw c (getD rows i (zi zg.sl))=aw c (getD rows k (zi zg.sl)))) i (by
   intro k hk _
   have hk2:k < rows.length:=by omega
   have hv:(BK (.h5 rows c (i:Int) (k:Int))).val=if (bif (aw c (getD rows i (zi zg.sl))).1 != 0 then (aw c (getD rows i (zi zg.sl))).1==(aw c (getD rows k (zi zg.sl))).1&&((aw c (getD rows i (zi zg.sl))).2.1==(aw c (getD rows k (zi zg.sl))).2.1&&((aw c (getD rows i (zi zg.sl))).2.2==(aw c (getD rows k (zi zg.sl))).2.2&&true)) else false)=true then some (.inr (.kb true,[])) else some (.inl (.h5 rows c (i:Int) ((k+1:Nat):Int))):=by
    simp only [BK,Tr.val,zM hk,zB hi,zB hk2,hc _ (bG (d:=zi zg.sl) hi),hc _ (bG (d:=zi zg.sl) hk2),bd,if_true]
    rw [if_pos,zt k (by unfold zA; omega)]
    cases ((getD (getD rows i (zi zg.sl)) (toNat c) (zi zg)).1 != 0) <;> rfl
   have he:=eq3 (aw c (getD rows i (zi zg.sl))) (aw c (getD rows k (zi zg.sl)))
   rcases zG ((aw c (getD rows i (zi zg.sl))).1 != 0) with d1 | d1
   ·have d1':(aw c (getD rows i (zi zg.sl))).1≠0:=bne_iff_ne.1 d1
    rcases zG ((aw c (getD rows i (zi zg.sl))).1==(aw c (getD rows k (zi zg.sl))).1&&((aw c (getD rows i (zi zg.sl))).2.1==(aw c (getD rows k (zi zg.sl))).2.1&&((aw c (getD rows i (zi zg.sl))).2.2==(aw c (getD rows k (zi zg.sl))).2.2&&true))) with d2 | d2
    ·exact .inr ⟨fun h=>h ⟨d1',he.1 d2⟩,_,ah.of (by rw [hv,d1,d2,if_pos (by rfl)]),rfl⟩
    ·exact .inl ⟨fun h=>(by rw [he.2 h.2] at d2; cases d2),ap.of (by rw [hv,d1,d2,if_neg (by simp)])⟩
   ·refine .inl ⟨fun h=>h.1 (by simpa using d1),ap.of (by rw [hv,d1,if_neg (by simp)])⟩)
  rcases h5 with ⟨p5,g5⟩ | ⟨p5,r,g5,hr⟩
  ·have hv5:(BK (.h5 rows c (i:Int) (i:Int))).val=some (.inl (.h2 rows c ((i+1:Nat):Int))):=by
    simp only [BK,Tr.val,zH]
    rw [zt i (by unfold zA; omega)]
    rfl
   exact .inl ⟨p5,(((ap.of hv).trans g5).trans (ap.of hv5)).mono (by omega)⟩
  ·exact .inr ⟨p5,r,((ap.of hv).ends g5).mono (by omega),hr⟩)
 have hu:(∀ i,i < rows.length→∀ k,k < i→¬ ((aw c (getD rows i (zi zg.sl))).1≠0∧aw c (getD rows i (zi zg.sl))=aw c (getD rows k (zi zg.sl))))↔pV rows c:=by
  unfold pV
  rw [List.pairwise_iff_getElem]
  have e:∀ i (hi:i < rows.length),getD rows i (zi zg.sl)=rows[i]:=fun i hi=>by rw [aP,zP hi,cX]
  constructor
  ·intro h i j hi hj hij hne heq
   have:=h j hj i hij
   rw [e i hi,e j hj] at this
   exact this ⟨by rw [← heq]; exact hne,heq.symm⟩
  ·rintro h i hi k hk ⟨h1,h2⟩
   rw [e i hi] at h1 h2
   rw [e k (by omega)] at h2
   exact h k i (by omega) hi hk (by rw [← h2]; exact h1) h2.symm
 have hi:(zca rows c).val=some (.inl (.h2 rows c ((0:Nat):Int))):=rfl
 rcases h2 with ⟨p2,g2⟩ | ⟨p2,r,g2,hr⟩
 ·refine ⟨false,zD hi (g2.ends (ah.of (r:=(.kb false,[])) ?_)) (by omega) rfl,⟨fun _=>hu.1 p2,fun _=>rfl⟩⟩
  simp only [BK,Tr.val,zH]
  rfl
 ·subst hr
  exact ⟨true,zD hi g2 (by omega) rfl,⟨fun h=>(by cases h),fun h=>absurd (hu.2 h) p2⟩⟩

theorem Hx {t:Sem zl} {row:List (Sem zg)} (hw:FB t) (hm:eD t=true) (hk:zR t.2.2.1 row.length=true):Av t row=some (aw t.2.2.1 row,()):=by
 unfold Av aA cL
 have h2:decide (LT.lt (α:=Int) t.2.2.1 (row.length:Int))=true:=by
  unfold zR at hk
  simp only [aV] at hk
  exact hk.2
 simp only [zcc,Tr.val,zn,lP hw,pB hw,hm,hk,h2]
 rfl
theorem Hw {t:Sem zl} {row:List (Sem zg)} (hw:FB t) (hm:eD t=true) (hk:zR t.2.2.1 row.length=true):EO t row=true:=by unfold EO; rw [Hx hw hm hk]; rfl
theorem KZ {t:Sem zl} {row:List (Sem zg)} (hw:FB t) (hm:eD t=true) (hk:zR t.2.2.1 row.length=true):KY t row=aw t.2.2.1 row:=by unfold KY; rw [Hx hw hm hk]; rfl

theorem Dd {x:Sem zj} {v:Sem zg} (hw:FB x.1) (hm:eD x.1=true) (hk:∀ r∈x.2,zR x.1.2.2.1 (length r)=true) (hl:x.2.length≤1000):wT x v=some (aj (fun r=>de r x.1.2.2.1 v) x.2 0,()):=by
 have hh:∀ r∈x.2,de r x.1.2.2.1 v=((aw x.1.2.2.1 r).1==v.1&&((aw x.1.2.2.1 r).2.1==v.2.1&&((aw x.1.2.2.1 r).2.2==v.2.2&&true))):=by
  intro r hr
  have:=hk r hr
  unfold zR at this
  simp only [aV] at this
  unfold de
  rw [show decide (GE.ge (α:=Int) x.1.2.2.1 0)=true from this.1,this.2]
  rfl
 have hf:=lm (t:=Qt) (Φ:=fun r=>r=(.int .i64 (aj (fun r=>de r x.1.2.2.1 v) x.2 0),[])) 1 (fun i=>.h2 (i:Int) (x,()) (v,())) (fun i=>de (getD x.2 i (zi zg.sl)) x.1.2.2.1 v=false) x.2.length (by
  intro i hi hj
  have hmem:=bG (d:=zi zg.sl) hi
  have hkk:=hk _ hmem
  have h2:decide (LT.lt (α:=Int) x.1.2.2.1 ((getD x.2 i (zi zg.sl)).length:Int))=true:=by
   unfold zR at hkk
   simp only [aV] at hkk
   exact hkk.2
  have hv:(Qt (.h2 (i:Int) (x,()) (v,()))).val=if de (getD x.2 i (zi zg.sl)) x.1.2.2.1 v=true then some (.inr (.int .i64 i,[])) else some (.inl (.h2 ((i+1:Nat):Int) (x,()) (v,()))):=by
   rw [hh _ hmem]
   simp only [Qt,Tr.val,zn,zM hi,zB hi,hkk,h2,lP hw,pB hw,hm,bd,zU,if_true,rQ]
   rw [zt i (by unfold zA; omega)]
  rcases zG (de (getD x.2 i (zi zg.sl)) x.1.2.2.1 v) with h | h
  ·have hp:=lC (p:=fun r=>de r x.1.2.2.1 v) (d:=zi zg.sl) x.2 0 i hi h hj
   refine .inr ⟨by rw [h]; simp,_,ah.of (by rw [hv,if_pos h]),?_⟩
   show _=(AV.int .i64 (aj (fun r=>de r x.1.2.2.1 v) x.2 0),[])
   rw [hp]
   simp
  ·exact .inl ⟨h,ap.of (by rw [hv,if_neg (by rw [h]; simp)])⟩)
 have hi:(zcd x v).val=some (.inl (.h2 ((0:Nat):Int) (x,()) (v,()))):=rfl
 rcases hf with ⟨h1,h2⟩ | ⟨h1,r,h2,rfl⟩
 ·have hp:=lD (p:=fun r=>de r x.1.2.2.1 v) (d:=zi zg.sl) x.2 0 h1
  rw [hp]
  refine zD hi (h2.ends (ah.of (r:=(.int .i64 (-1),[])) ?_)) (by omega) rfl
  simp only [Qt,Tr.val,zH]
  rfl
 ·exact zD hi h2 (by omega) rfl
theorem MB {x:Sem zj} {v:Sem zg} (hw:FB x.1) (hm:eD x.1=true) (hk:∀ r∈x.2,zR x.1.2.2.1 (length r)=true) (hl:x.2.length≤1000):EN x v=true:=by unfold EN; rw [Dd hw hm hk hl]; rfl
theorem P6 {x:Sem zj} {v:Sem zg} (hw:FB x.1) (hm:eD x.1=true) (hk:∀ r∈x.2,zR x.1.2.2.1 (length r)=true) (hl:x.2.length≤1000):Jm x v=aj (fun r=>de r x.1.2.2.1 v) x.2 0:=by unfold Jm; rw [Dd hw hm hk hl]; rfl

structure RG (x:Sem zj):Prop where
 t:FB x.1
 rows:x.2.length≤1000
 vals:∀ r∈x.2,∀ v∈(r:List (Sem zg)),kr v
theorem RG.short {x:Sem zj} (h:RG x):mg x:=⟨h.t.nuq,h.t.nrf,h.rows⟩

theorem CM {t:Sem zl} {row:List (Sem zg)}:∀ (r:List (Sem zg)) (i:Nat),my t row r (i:Int)=(0:Int)→∀ j,j < r.length→(getD t.2.1 (i+j) (zi zh)).2.2=true→(getD r j (zi zg)).1≠0
 | [],_,_,j,hj,_=>by simp at hj
 | x::r,i,h,j,hj,hn=>by
  rw [vG] at h
  split at h
  ·cases h
  rename_i c
  split at h
  ·cases h
  cases j with
  | zero=>
   intro h0
   have h0':(x.1==0)=true:=by simpa using h0
   rw [h0'] at c
   exact c hn
  | succ j=>
   have:=CM r (i+1) h j (by simpa using hj) (by rw [show i+1+j=i+(j+1) by omega]; exact hn)
   exact this
theorem CN {t:Sem zl} {row:List (Sem zg)}:∀ (r:List (Sem zg)) (i:Nat),nO t row r (i:Int)=(0:Int)→(∀ v∈r,ce v=true)∧my t row row ((0:Nat):Int)=(0:Int)
 | [],i,h=>by
  unfold nO at h
  rw [fA] at h
  exact ⟨fun v hv=>(by cases hv),h⟩
 | x::r,i,h=>by
  have e:nO t row (x::r) (i:Int)=if (!ce x)=true then (1:Int) else nO t row r ((i+1:Nat):Int):=by
   unfold nO
   rw [fA]
   rfl
  rw [e] at h
  split at h
  ·cases h
  rename_i c
  obtain ⟨h1,h2⟩:=CN r (i+1) h
  refine ⟨fun v hv=>?_,h2⟩
  rcases dQ.1 hv with rfl | hv
  ·simpa using c
  ·exact h1 v hv

theorem mz {t:Sem zl} {row:List (Sem zg)} (h:eC t row=(0:Int)):row.length=t.2.1.length∧(∀ v∈row,ce v=true)∧∀ j,j < row.length→(getD t.2.1 j (zi zh)).2.2=true→(getD row j (zi zg)).1≠0:=by
 have hl:=yA (t:=t) (row:=row) (by simpa using h)
 unfold eC at h
 split at h
 ·cases h
 obtain ⟨h1,h2⟩:=CN row 0 h
 refine ⟨hl,h1,fun j hj hn=>?_⟩
 have:=CM row 0 h2 j hj (by rwa [gE])
 exact this

theorem I6 {a b:Sem zg} (ha:ce a=true) (hb:ce b=true) (h:dq a b=(0:Int)):a=b:=by
 unfold dq aM at h
 rw [ha,hb] at h
 have h:PK [DL a.1 b.1,rZ a.2.1 b.2.1,DM a.2.2 b.2.2]=(0:Int):=h
 rw [← Pa] at h
 rcases zG (a.1==b.1&&(a.2.1==b.2.1&&(a.2.2==b.2.2&&true))) with c | c
 ·exact (eq3 a b).1 c
 ·rw [if_neg (by rw [c]; simp)] at h
  split at h <;> cases h

theorem EM {x:Sem zj} (hw:RG x):∃ e:Int,lQ x=some (e,())∧(e=0↔kA x):=by
 have hsw:=hw.rows
 have hsu:=hw.t.nuq
 by_cases hm:eD x.1=true
 case neg=>
  have hm':eD x.1=false:=by simpa using hm
  refine ⟨1,?_,fun h=>(by cases h),fun h=>absurd h.may hm⟩
  unfold lQ aA cL
  simp only [OA,Tr.val,zn,lP hw.t,pB hw.t,hm']
  rfl
 by_cases hwl:x.2.length≤200
 case neg=>
  refine ⟨13,?_,fun h=>(by cases h),fun h=>absurd h.few hwl⟩
  unfold lQ aA cL
  simp only [OA,Tr.val,zn,lP hw.t,pB hw.t,hm]
  rw [if_pos trivial,if_neg (by simp),if_pos (by simp; omega)]
  rfl
 have hi:(OA x).val=some (.inl (.h6 ((0:Nat):Int) (x,()))):=by
  simp only [OA,Tr.val,zn,lP hw.t,pB hw.t,hm]
  rw [if_pos trivial,if_neg (by simp),if_neg (by simp; omega)]
  rfl
 obtain ⟨hkc,hrc,huc,_,_⟩:=jG hm
 have h6:=lm (t:=oC) (Φ:=QD) 1 (fun i=>.h6 (i:Int) (x,())) (fun i=>eC x.1 (getD x.2 i (zi zg.sl))=(0:Int)) x.2.length (by
  intro i hi _
  have hvr:=hw.vals _ (bG (d:=zi zg.sl) hi)
  have hv:(oC (.h6 (i:Int) (x,()))).val=if (eC x.1 (getD x.2 i (zi zg.sl)) != 0)=true then some (.inr (.int .i64 (eC x.1 (getD x.2 i (zi zg.sl))),[])) else some (.inl (.h6 ((i+1:Nat):Int) (x,()))):=by
   simp only [oC,Tr.val,zn,zM hi,zB hi,bd,My hw.t hvr,P5 hw.t hvr,if_true]
   rw [zt i (by unfold zA; omega)]
  by_cases h:eC x.1 (getD x.2 i (zi zg.sl))=(0:Int)
  ·refine .inl ⟨h,ap.of ?_⟩
   rw [hv,if_neg (by rw [h]; simp)]
  ·refine .inr ⟨h,_,ah.of (by rw [hv,if_pos (by simpa using h)]),_,rfl,h⟩)
 rcases h6 with ⟨hf,h6⟩ | ⟨hf,r,h6,e,he,hne⟩
 case inr=>
  subst he
  exact ⟨e,zD hi h6 (by omega) rfl,fun h=>absurd h hne,fun h=>absurd ((ar (Q:=fun r=>eC x.1 r=(0:Int))).2 h.fits) hf⟩
 have hfits:=(ar (Q:=fun r=>eC x.1 r=(0:Int))).1 hf
 have hlen:∀ r∈x.2,length r=x.1.2.1.length:=fun r hr=>(mz (hfits r hr)).1
 have hin:∀ c,lB c x.1.2.1.length→∀ r∈x.2,zR c (length r)=true:=fun c hc r hr=>by
  rw [hlen r hr]; exact sw hc
 obtain ⟨b,hb,hbu⟩:=tc (rows:=x.2) (c:=x.1.2.2.1) (hin _ hkc) hsw
 have hbc:lR x.2 x.1.2.2.1=true:=by unfold lR; rw [hb]; rfl
 have hbv:pD x.2 x.1.2.2.1=b:=by unfold pD; rw [hb]; rfl
 have hv6:(oC (.h6 (x.2.length:Int) (x,()))).val=if b=true then some (.inr (.int .i64 7,[])) else some (.inl (.h14 ((0:Nat):Int) (x,()))):=by
  simp only [oC,Tr.val,zH,hbc,hbv]
  rfl
 by_cases hb1:b=true
 ·refine ⟨7,zD hi (h6.ends (ah.of (by rw [hv6,if_pos hb1]))) (by omega) rfl,fun h=>(by cases h),fun h=>?_⟩
  have:=hbu.2 h.key
  rw [hb1] at this; cases this
 have hkey:pV x.2 x.1.2.2.1:=hbu.1 (by simpa using hb1)
 have g14:ap oC _ (.h6 ((0:Nat):Int) (x,())) _:=h6.trans (ap.of (by rw [hv6,if_neg hb1]))
 have h14:=lm (t:=oC) (Φ:=QD) 1 (fun i=>.h14 (i:Int) (x,())) (fun i=>pV x.2 (getD x.1.2.2.2.1 i (zi zf))) x.1.2.2.2.1.length (by
  intro i hi _
  obtain ⟨b,hb,hbu⟩:=tc (rows:=x.2) (c:=getD x.1.2.2.2.1 i (zi zf)) (hin _ (huc _ (bG hi))) hsw
  have hbc:lR x.2 (getD x.1.2.2.2.1 i (zi zf))=true:=by unfold lR; rw [hb]; rfl
  have hbv:pD x.2 (getD x.1.2.2.2.1 i (zi zf))=b:=by unfold pD; rw [hb]; rfl
  have hv:(oC (.h14 (i:Int) (x,()))).val=if b=true then some (.inr (.int .i64 7,[])) else some (.inl (.h14 ((i+1:Nat):Int) (x,()))):=by
   simp only [oC,Tr.val,zM hi,zB hi,if_true,bd,hbc,hbv]
   rw [zt i (by unfold zA; omega)]
  by_cases h:b=true
  ·refine .inr ⟨fun hu=>?_,_,ah.of (by rw [hv,if_pos h]),7,rfl,by decide⟩
   have:=hbu.2 hu
   rw [h] at this; cases this
  ·exact .inl ⟨hbu.1 (by simpa using h),ap.of (by rw [hv,if_neg h])⟩)
 rcases h14 with ⟨hq,h14⟩ | ⟨hq,r,h14,e,he,hne⟩
 case inr=>
  subst he
  exact ⟨e,zD hi (g14.ends h14) (by omega) rfl,fun h=>absurd h hne,fun h=>absurd ((ar (Q:=fun u=>pV x.2 u)).2 h.uniq) hq⟩
 have huniq:=(ar (Q:=fun u=>pV x.2 u)).1 hq
 have hv14:(oC (.h14 (x.1.2.2.2.1.length:Int) (x,()))).val=some (.inl (.h19 ((0+1:Nat):Int) (x,()))):=by
  simp only [oC,Tr.val,zH]
  rfl
 have g19:=(g14.trans h14).trans (ap.of hv14)
 have hstep:∀ i,i+1 < x.2.length→(Vg (aw x.1.2.2.1 (getD x.2 i (zi zg.sl))) (aw x.1.2.2.1 (getD x.2 (i+1) (zi zg.sl)))↔decide (GT.gt (α:=Int) (dq (aw x.1.2.2.1 (getD x.2 i (zi zg.sl))) (aw x.1.2.2.1 (getD x.2 (i+1) (zi zg.sl)))) 0)=false):=by
  intro i h2
  have h1:i < x.2.length:=by omega
  have m1:=bG (d:=zi zg.sl) h1
  have m2:=bG (d:=zi zg.sl) h2
  obtain ⟨l1,f1,n1⟩:=mz (hfits _ m1)
  obtain ⟨l2,f2,_⟩:=mz (hfits _ m2)
  have hT:=(oG x.1).1 hm
  obtain ⟨k1,k2⟩:=hT.key
  have hk1:toNat x.1.2.2.1 < (getD x.2 i (zi zg.sl)).length:=by rw [l1]; omega
  have hk2:toNat x.1.2.2.1 < (getD x.2 (i+1) (zi zg.sl)).length:=by rw [l2]; omega
  unfold Vg
  constructor
  ·intro h; exact ao (by omega)
  ·intro h
   have h:¬ GT.gt (α:=Int) (dq (aw x.1.2.2.1 (getD x.2 i (zi zg.sl))) (aw x.1.2.2.1 (getD x.2 (i+1) (zi zg.sl)))) 0:=of_decide_eq_false h
   by_cases h0:@Eq Int (dq (aw x.1.2.2.1 (getD x.2 i (zi zg.sl))) (aw x.1.2.2.1 (getD x.2 (i+1) (zi zg.sl)))) 0
   ·exfalso
    have he:=I6 (f1 _ (bG hk1)) (f2 _ (bG hk2)) h0
    have hne:=n1 _ hk1 hT.nn
    have hp:=(List.pairwise_iff_getElem.1 hkey) i (i+1) h1 h2 (by omega)
    have e1:getD x.2 i (zi zg.sl)=x.2[i]:=by rw [aP,zP h1,cX]
    have e2:getD x.2 (i+1) (zi zg.sl)=x.2[i+1]:=by rw [aP,zP h2,cX]
    rw [e1] at hne he
    rw [e2] at he
    exact hp hne he
   ·omega
 have h19:=lm (t:=oC) (Φ:=QD) 1 (fun i=>.h19 ((i+1:Nat):Int) (x,())) (fun i=>Vg (aw x.1.2.2.1 (getD x.2 i (zi zg.sl))) (aw x.1.2.2.1 (getD x.2 (i+1) (zi zg.sl)))) (x.2.length - 1) (by
  intro i hi _
  have h1:i < x.2.length:=by omega
  have h2:i+1 < x.2.length:=by omega
  have m1:=bG (d:=zi zg.sl) h1
  have m2:=bG (d:=zi zg.sl) h2
  have k1:=hin _ hkc _ m1
  have k2:=hin _ hkc _ m2
  have o1:∀ r∈x.2,(aw x.1.2.2.1 r).2.2.length≤1000000:=by
   intro r hr
   by_cases h:toNat x.1.2.2.1 < length r
   ·exact (hw.vals r hr _ (bG h)).2.2
   ·unfold aw
    rw [aP,dO (by omega)]
    simp [zi]
  have hv:(oC (.h19 ((i+1:Nat):Int) (x,()))).val=if decide (GT.gt (α:=Int) (dq (aw x.1.2.2.1 (getD x.2 i (zi zg.sl))) (aw x.1.2.2.1 (getD x.2 (i+1) (zi zg.sl)))) 0)=true then some (.inr (.int .i64 15,[])) else some (.inl (.h19 ((i+1+1:Nat):Int) (x,()))):=by
   simp only [oC,zn,oP i (by unfold zA; omega)]
   simp only [Tr.val,zM h2,zB h2,zB h1,bd,Prod.eta,Hw hw.t hm k1,Hw hw.t hm k2,KZ hw.t hm k1,KZ hw.t hm k2,Je (o1 _ m1) (o1 _ m2),Mw (o1 _ m1) (o1 _ m2),if_true]
   rw [zt (i+1) (by unfold zA; omega)]
  rcases zG (decide (GT.gt (α:=Int) (dq (aw x.1.2.2.1 (getD x.2 i (zi zg.sl))) (aw x.1.2.2.1 (getD x.2 (i+1) (zi zg.sl)))) 0)) with c | c
  ·exact .inr ⟨fun h=>(by rw [(hstep i h2).1 h] at c; cases c),_,ah.of (by rw [hv,if_pos c]),15,rfl,by decide⟩
  ·exact .inl ⟨(hstep i h2).2 c,ap.of (by rw [hv,if_neg (by rw [c]; simp)])⟩)
 rcases h19 with ⟨hr,h19⟩ | ⟨hr,r,h19,e,he,hne⟩
 case inr=>
  subst he
  exact ⟨e,zD hi (g19.ends h19) (by omega) rfl,fun h=>absurd h hne,fun h=>absurd h.rise hr⟩
 have hv19:(oC (.h19 ((x.2.length - 1+1:Nat):Int) (x,()))).val=some (.inr (.int .i64 0,[])):=by
  simp only [oC,Tr.val]
  rw [if_neg (by simp; omega)]
 exact ⟨0,zD hi (g19.ends (h19.ends (ah.of hv19))) (by omega) rfl,fun _=>⟨hm,hwl,hfits,hkey,huniq,hr⟩,fun _=>rfl⟩

theorem Hy (s:zw):∀ (l:List (Sem zj)) (i:Nat),fU s l (i:Int)=aj (fun x:Sem zj=>x.1.1==s) l i
 | [],_=>rfl
 | x::r,i=>by
  rw [fU,aj]
  have h:=Hy s r (i+1)
  have e:(((i+1:Nat)):Int)=(i:Int)+1:=by omega
  rw [e] at h
  by_cases hx:(x.1.1==s)=true
  ·rw [if_pos hx,if_pos hx]
  ·rw [if_neg hx,if_neg hx,h]
theorem dX (l:List (Sem zj)) (s:zw):mQ l s=zZ l s:=Hy s l 0

theorem kA.keys {x:Sem zj} (h:kA x):∀ r∈x.2,zR x.1.2.2.1 (length r)=true:=by
 intro r hr
 obtain ⟨h1,_⟩:=jG h.may
 rw [(mz (h.fits r hr)).1]
 exact sw h1
theorem Od (x:Sem zj) (c:Int) (v:Sem zg):decide (LT.lt (α:=Int) (aj (fun r=>de r c v) x.2 0) 0) = !gp x c v:=by
 unfold gp
 rcases gJ (fun r=>de r c v) x.2 0 with h | ⟨h,_⟩
 ·rw [h]; rfl
 ·have:decide (aj (fun r=>de r c v) x.2 0 ≥ 0)=true:=zu (by omega)
  rw [this,ao (by omega)]; rfl

theorem EQ {db:List (Sem zj)} (hok:∀ x∈db,kA x) (hw:∀ x∈db,RG x) (hl:db.length≤13):∃ b,td db=some (b,())∧(b=true↔FD db):=by
 have h2:=lm (t:=pX) (Φ:=QE) 1010000 (fun i=>.h2 db (i:Int)) (fun i=>∀ f∈(getD db i (zi zj)).1.2.2.2.2.1,LE.le (α:=Int) 0 (zZ db f.2)∧∀ row∈(getD db i (zi zj)).2,(aw f.1 row).1≠0→gp (bp db f.2) (bp db f.2).1.2.2.1 (aw f.1 row)=true) db.length (by
  intro i hi _
  have hm:=bG (d:=zi zj) hi
  have s1:=(hw _ hm).t.nrf
  have s2:=(hw _ hm).rows
  have hcl:=(hok _ hm).cols
  generalize hx:getD db i (zi zj)=x at *
  have hv:(pX (.h2 db (i:Int))).val=some (.inl (.h5 db (i:Int) ((0:Nat):Int))):=by
   simp only [pX,Tr.val,zM hi]
   rfl
  have h5:=lm (t:=pX) (Φ:=QE) 1002 (fun k=>.h5 db (i:Int) (k:Int)) (fun k=>LE.le (α:=Int) 0 (zZ db (getD x.1.2.2.2.2.1 k (zi zq)).2)∧∀ row∈x.2,(aw (getD x.1.2.2.2.2.1 k (zi zq)).1 row).1≠0→gp (bp db (getD x.1.2.2.2.2.1 k (zi zq)).2) (bp db (getD x.1.2.2.2.2.1 k (zi zq)).2).1.2.2.1 (aw (getD x.1.2.2.2.2.1 k (zi zq)).1 row)=true) x.1.2.2.2.2.1.length (by
   intro k hk _
   have hfm:=bG (d:=zi zq) hk
   have hcf:=hcl _ hfm
   generalize hf:getD x.1.2.2.2.2.1 k (zi zq)=f at *
   have hv:(pX (.h5 db (i:Int) (k:Int))).val=if decide (LT.lt (α:=Int) (zZ db f.2) 0)=true then some (.inr (.kb false,[])) else some (.inl (.h12 db (i:Int) (k:Int) (zZ db f.2) ((0:Nat):Int) (f,()))):=by
    simp only [pX,Tr.val,zB hi,bd,hx,zM hk,zB hk,hf,dX,if_true]
    rfl
   by_cases h1:LE.le (α:=Int) 0 (zZ db f.2)
   ·have g1:=ap.of (t:=pX) (s:=.h5 db (i:Int) (k:Int)) (by rw [hv,if_neg (by rw [aN]; omega)])
    have hto:bp db f.2∈db:=bG (by
     rcases vB db f.2 with h | ⟨_,h⟩
     ·rw [h] at h1; exact absurd h1 (by decide)
     ·omega)
    have htw:=hw _ hto
    have hto2:=hok _ hto
    have h12:=lm (t:=pX) (Φ:=QE) 1 (fun j=>.h12 db (i:Int) (k:Int) (zZ db f.2) (j:Int) (f,())) (fun j=>(aw f.1 (getD x.2 j (zi zg.sl))).1≠0→gp (bp db f.2) (bp db f.2).1.2.2.1 (aw f.1 (getD x.2 j (zi zg.sl)))=true) x.2.length (by
     intro j hj _
     have hv:(pX (.h12 db (i:Int) (k:Int) (zZ db f.2) (j:Int) (f,()))).val=if (bif (aw f.1 (getD x.2 j (zi zg.sl))).1 != 0 then !gp (bp db f.2) (bp db f.2).1.2.2.1 (aw f.1 (getD x.2 j (zi zg.sl))) else false)=true then some (.inr (.kb false,[])) else some (.inl (.h12 db (i:Int) (k:Int) (zZ db f.2) ((j+1:Nat):Int) (f,()))):=by
      simp only [pX,Tr.val,zn,Prod.eta,zB hi,bd,hx,zM hj,zB hj,hcf _ (bG (d:=zi zg.sl) hj),du h1,MB htw.t hto2.may hto2.keys htw.rows,if_true,rQ]
      rw [P6 htw.t hto2.may hto2.keys htw.rows,Od]
      rw [if_pos (by cases ((getD (getD x.2 j (zi zg.sl)) (toNat f.1) (zi zg)).1 != 0) <;> rfl)]
      rw [zt j (by unfold zA; omega)]
     by_cases d1:(aw f.1 (getD x.2 j (zi zg.sl))).1=0
     ·exact .inl ⟨fun h=>absurd d1 h,ap.of (by rw [hv,if_neg (by rw [d1]; simp)])⟩
     ·have d1':((aw f.1 (getD x.2 j (zi zg.sl))).1 != 0)=true:=by simpa using d1
      by_cases d2:gp (bp db f.2) (bp db f.2).1.2.2.1 (aw f.1 (getD x.2 j (zi zg.sl)))=true
      ·exact .inl ⟨fun _=>d2,ap.of (by rw [hv,if_neg (by rw [d2,d1']; simp)])⟩
      ·exact .inr ⟨fun h=>d2 (h d1),_,ah.of (by rw [hv,if_pos (by rw [d1']; simpa using d2)]),rfl⟩)
    rcases h12 with ⟨p12,g12⟩ | ⟨p12,r,g12,hr⟩
    ·have hv2:(pX (.h12 db (i:Int) (k:Int) (zZ db f.2) (x.2.length:Int) (f,()))).val=some (.inl (.h5 db (i:Int) ((k+1:Nat):Int))):=by
      simp only [pX,Tr.val,zB hi,bd,hx,zH]
      rw [zt k (by unfold zA; omega)]
      rfl
     refine .inl ⟨⟨h1,?_⟩,((g1.trans g12).trans (ap.of hv2)).mono (by omega)⟩
     exact (ar (Q:=fun row=>(aw f.1 row).1≠0→gp (bp db f.2) (bp db f.2).1.2.2.1 (aw f.1 row)=true)).1 p12
    ·refine .inr ⟨fun h=>p12 ?_,r,(g1.ends g12).mono (by omega),hr⟩
     exact (ar (Q:=fun row=>(aw f.1 row).1≠0→gp (bp db f.2) (bp db f.2).1.2.2.1 (aw f.1 row)=true)).2 h.2
   ·exact .inr ⟨fun h=>h1 h.1,_,(ah.of (by rw [hv,if_pos (by rw [aN]; omega)])).mono (by omega),rfl⟩)
  rcases h5 with ⟨p5,g5⟩ | ⟨p5,r,g5,hr⟩
  ·have hv2:(pX (.h5 db (i:Int) (x.1.2.2.2.2.1.length:Int))).val=some (.inl (.h2 db ((i+1:Nat):Int))):=by
    simp only [pX,Tr.val,zB hi,bd,hx,zH]
    rw [zt i (by unfold zA; omega)]
    rfl
   refine .inl ⟨?_,(((ap.of hv).trans g5).trans (ap.of hv2)).mono (by omega)⟩
   exact (ar (Q:=fun f:Sem zq=>LE.le (α:=Int) 0 (zZ db f.2)∧∀ row∈x.2,(aw f.1 row).1≠0→gp (bp db f.2) (bp db f.2).1.2.2.1 (aw f.1 row)=true)).1 p5
  ·refine .inr ⟨fun h=>p5 ?_,r,((ap.of hv).ends g5).mono (by omega),hr⟩
   exact (ar (Q:=fun f:Sem zq=>LE.le (α:=Int) 0 (zZ db f.2)∧∀ row∈x.2,(aw f.1 row).1≠0→gp (bp db f.2) (bp db f.2).1.2.2.1 (aw f.1 row)=true)).2 h)
 have hb:(∀ i,i < db.length→∀ f∈(getD db i (zi zj)).1.2.2.2.2.1,LE.le (α:=Int) 0 (zZ db f.2)∧∀ row∈(getD db i (zi zj)).2,(aw f.1 row).1≠0→gp (bp db f.2) (bp db f.2).1.2.2.1 (aw f.1 row)=true)↔FD db:=
  ar (Q:=fun x:Sem zj=>∀ f∈x.1.2.2.2.2.1,LE.le (α:=Int) 0 (zZ db f.2)∧∀ row∈x.2,(aw f.1 row).1≠0→gp (bp db f.2) (bp db f.2).1.2.2.1 (aw f.1 row)=true)
 have hi:(zb7 db).val=some (.inl (.h2 db ((0:Nat):Int))):=rfl
 rcases h2 with ⟨h2,h3⟩ | ⟨h2,r,h3,h4⟩
 ·refine ⟨true,zD hi (h3.ends (ah.of (r:=(.kb true,[])) ?_)) (by omega) rfl,fun _=>hb.1 h2,fun _=>rfl⟩
  simp only [pX,Tr.val,zH]
  rfl
 ·unfold QE at h4
  subst h4
  exact ⟨false,zD hi h3 (by omega) rfl,fun h=>(by cases h),fun h=>absurd (hb.2 h) h2⟩

theorem ES {db:List (Sem zj)} (hw:∀ x∈db,RG x):∃ e:Int,ox db=some (e,())∧(e=0↔tW db):=by
 by_cases hwl:db.length≤12
 case neg=>
  refine ⟨13,?_,fun h=>(by cases h),fun h=>absurd h.few hwl⟩
  unfold ox aA cL
  simp only [i9p,Tr.val]
  rw [if_pos (by simp; omega)]
  rfl
 have hi:(i9p db).val=some (.inl (.h4 db ((0+1:Nat):Int))):=by
  simp only [i9p,Tr.val]
  rw [if_neg (by simp; omega)]
  rfl
 have h4:=lm (t:=Qu) (Φ:=QD) 1 (fun i=>.h4 db ((i+1:Nat):Int)) (fun i=>Op.bytesLess (getD db i (zi zj)).1.1 (getD db (i+1) (zi zj)).1.1=true) (db.length - 1) (by
  intro i hi _
  have h1:i < db.length:=by omega
  have h2:i+1 < db.length:=by omega
  have hv:(Qu (.h4 db ((i+1:Nat):Int))).val=if (!Op.bytesLess (getD db i (zi zj)).1.1 (getD db (i+1) (zi zj)).1.1)=true then some (.inr (.int .i64 15,[])) else some (.inl (.h4 db ((i+1+1:Nat):Int))):=by
   simp only [Qu,oP i (by unfold zA; omega)]
   simp only [Tr.val,zM h2,zB h2,zB h1,bd,if_true]
   rw [zt (i+1) (by unfold zA; omega)]
  by_cases h:Op.bytesLess (getD db i (zi zj)).1.1 (getD db (i+1) (zi zj)).1.1=true
  ·exact .inl ⟨h,ap.of (by rw [hv,if_neg (by rw [h]; simp)])⟩
  ·exact .inr ⟨h,_,ah.of (by rw [hv,if_pos (by simpa using h)]),15,rfl,by decide⟩)
 rcases h4 with ⟨hn,h4⟩ | ⟨hn,r,h4,e,he,hne⟩
 case inr=>
  subst he
  exact ⟨e,zD hi h4 (by omega) rfl,fun h=>absurd h hne,fun h=>absurd h.names hn⟩
 have hv4:(Qu (.h4 db ((db.length - 1+1:Nat):Int))).val=some (.inl (.h9 db ((0:Nat):Int))):=by
  simp only [Qu,Tr.val]
  rw [if_neg (by simp; omega)]
  rfl
 have g9:=h4.trans (ap.of hv4)
 have h9:=lm (t:=Qu) (Φ:=QD) 1 (fun i=>.h9 db (i:Int)) (fun i=>kA (getD db i (zi zj))) db.length (by
  intro i hi _
  obtain ⟨e,he,heq⟩:=EM (hw _ (bG (d:=zi zj) hi))
  have hc:At (getD db i (zi zj))=true:=by unfold At; rw [he]; rfl
  have hv0:EL (getD db i (zi zj))=e:=by unfold EL; rw [he]; rfl
  have hv:(Qu (.h9 db (i:Int))).val=if (e != 0)=true then some (.inr (.int .i64 e,[])) else some (.inl (.h9 db ((i+1:Nat):Int))):=by
   simp only [Qu,Tr.val,zn,zM hi,zB hi,bd,if_true,Prod.eta,hc,hv0]
   rw [zt i (by unfold zA; omega)]
  by_cases h:e=0
  ·exact .inl ⟨heq.1 h,ap.of (by rw [hv,if_neg (by rw [h]; simp)])⟩
  ·exact .inr ⟨fun hr=>h (heq.2 hr),_,ah.of (by rw [hv,if_pos (by simpa using h)]),e,rfl,h⟩)
 rcases h9 with ⟨hr,h9⟩ | ⟨hr,r,h9,e,he,hne⟩
 case inr=>
  subst he
  exact ⟨e,zD hi (g9.ends h9) (by omega) rfl,fun h=>absurd h hne,fun h=>absurd ((ar (Q:=kA)).2 h.rels) hr⟩
 have hrels:=(ar (Q:=kA)).1 hr
 obtain ⟨b,hb,hbb⟩:=EQ (db:=db) hrels hw (by omega)
 have hc:Aw db=true:=by unfold Aw; rw [hb]; rfl
 have hv0:EP db=b:=by unfold EP; rw [hb]; rfl
 have hv9:(Qu (.h9 db (db.length:Int))).val=if (!b)=true then some (.inr (.int .i64 10,[])) else some (.inr (.int .i64 0,[])):=by
  simp only [Qu,Tr.val,zH,hc,hv0]
  rfl
 by_cases h:b=true
 ·exact ⟨0,zD hi (g9.ends (h9.ends (ah.of (by rw [hv9,if_neg (by rw [h]; simp)])))) (by omega) rfl,fun _=>⟨hwl,hn,hrels,hbb.1 h⟩,fun _=>rfl⟩
 ·exact ⟨10,zD hi (g9.ends (h9.ends (ah.of (by rw [hv9,if_pos (by simpa using h)])))) (by omega) rfl,fun h=>(by cases h),fun hB=>absurd (hbb.2 hB.bound) h⟩

theorem yL (x:Int):∀ (l:List Int) (i:Nat),(∃ j,∃ hj:j < l.length,ed x l (i:Int)=((i+j:Nat):Int)∧l[j]=x∧∀ k (hk:k < j),l[k]≠x)∨(ed x l (i:Int)=(-1:Int)∧x ∉ l)
 | [],i=>.inr ⟨rfl,by simp⟩
 | a::r,i=>by
  rw [ed]
  by_cases h:x=a
  ·rw [if_pos (by simpa using h)]
   exact .inl ⟨0,by simp,by simp,h.symm,fun k hk=>absurd hk (by omega)⟩
  ·rw [if_neg (by simpa using h),show ((i:Int)+1)=((i+1:Nat):Int) by omega]
   rcases yL x r (i+1) with ⟨j,hj,h1,h2,h3⟩ | ⟨h1,h2⟩
   ·refine .inl ⟨j+1,by simpa using hj,by rw [h1]; congr 1; omega,h2,fun k hk=>?_⟩
    cases k with
    | zero=>exact fun e=>h e.symm
    | succ k=>exact h3 k (by omega)
   ·exact .inr ⟨h1,by simp [h2,h]⟩
theorem GS (l:List Int) (x:Int):(∃ j,∃ hj:j < l.length,gw l x=(j:Int)∧l[j]=x∧∀ k (hk:k < j),l[k]≠x)∨(gw l x=(-1:Int)∧x ∉ l):=by
 rcases yL x l 0 with ⟨j,hj,h1,h2⟩ | h
 ·exact .inl ⟨j,hj,by show ed x l ((0:Nat):Int)=_; rw [h1,gE],h2⟩
 ·exact .inr h

def JQ (c:Sem zh):Prop:=zJ c.1=true∧LE.le (α:=Int) 1 c.2.1∧LE.le (α:=Int) c.2.1 3
theorem kB.col {t:Sem zl} (h:kB t):∀ c∈t.2.1,JQ c:=by
 intro c hc
 obtain ⟨i,hi,rfl⟩:=kD hc
 have:=h.cols i hi
 rw [aP,zP hi,cX] at this
 exact ⟨this.1,this.2.1,this.2.2.1⟩
theorem PP {t:Sem zl} {s:zw} (h:¬ LT.lt (α:=Int) (ae t s) 0):toNat (ae t s) < t.2.1.length:=by
 rcases tP t s with h1 | ⟨h1,h2⟩
 ·rw [h1] at h; simp at h
 ·omega
theorem kB.at {t:Sem zl} (h:kB t) {s:zw} (hs:¬ LT.lt (α:=Int) (ae t s) 0):JQ (getD t.2.1 (toNat (ae t s)) (zi zh)):=h.col _ (lA _ _ (PP hs))

theorem sk {db:List (Sem zj)} {n:zw} (hB:tW db) (h:(0:Int)≤zZ db n):kB (aC db n):=(oG _).1 (hB.rels _ (sj h)).may

theorem Ju {e:ze} {cols:List (Sem zh)} (hc:kw 16 e=true) (h:bw e=true):ej e cols=np e cols:=by
 have hs:=(AW 16 e (.mk [] (0,0,[]) [] []) hc).2
 unfold ej np
 by_cases hn:e=.mk [] (0,0,[]) [] []
 ·rw [if_pos (hs.2 hn)]
  subst hn
  rfl
 ·have ho:cM e=true:=by
   unfold bw at h
   rcases zG (fR e) with c | c
   ·exact absurd (il.1 c) hn
   ·rw [c] at h; exact h
  rw [if_neg fun k=>hn (hs.1 k),Ik ho]
  rfl

theorem MJ {t:Sem zl} (h:mV t=0) (hc:kw 16 t.2.2.2.2.2=true) (hm:bw t.2.2.2.2.2=true):(∀ i,i < t.2.1.length→zQ t.2.1 (getD t.2.1 i (zi zh)).1=(i:Int))∧ej t.2.2.2.2.2 t.2.1=(0:Int):=by
 unfold mV at h
 split at h
 ·cases h
 ·rename_i hp
  refine ⟨fun i hi=>?_,?_⟩
  ·apply qL
   intro hne
   exact hp ⟨i,hi,hne⟩
  ·rw [Ju hc hm]
   exact h

theorem uB {e:Int} {p:Sem aB} (h:(jo e p).1=0):e=0∧mV p.2.2.2.1=0∧jo e p=(0,p):=by
 unfold jo at h ⊢
 by_cases c:e=0
 ·rw [if_pos c] at h ⊢
  by_cases d:mV p.2.2.2.1=0
  ·rw [if_pos d]; exact ⟨c,d,rfl⟩
  ·rw [if_neg d] at h; exact absurd h d
 ·rw [if_neg c] at h; exact absurd h c

theorem MG {db:List (Sem zj)} {f w t:zw} (h:nt db f w t=0):∀ n∈ea f w,LE.le (α:=Int) 0 (zZ db n):=by
 unfold nt at h
 split at h
 ·assumption
 ·cases h

theorem pg {t:Sem zl} {names:List zw} (h:iy t names=0):(∀ s∈names,¬ LT.lt (α:=Int) (ae t s) 0)∧(ky t names).Nodup:=by
 unfold iy at h
 split at h
 ·rename_i h1
  split at h
  ·exact ⟨h1,by assumption⟩
  ·cases h
 ·cases h

theorem y5 (k:Nat):∀ n:Nat,(wn (k:Int) n).length=if k < n then n - 1 else n
 | 0=>rfl
 | n+1=>by
  rw [uK]
  have:=y5 k n
  by_cases h:n=k
  ·subst h
   rw [if_neg (by simp),this,if_neg (by omega),if_pos (by omega)]
   omega
  ·rw [if_pos (by simp; omega),iM,this]
   by_cases h2:k < n
   ·rw [if_pos h2,if_pos (by omega)]; simp; omega
   ·rw [if_neg h2,if_neg (by omega)]; rfl
theorem SI {k:Int} {n j:Nat} (h:j∈wn k n):j < n:=by
 unfold wn at h
 simpa using (List.mem_filter.1 h).1

theorem C1 {s:Sem zk} (hw:nm s) (hst:dK s=true) (hm:kK s.1):zJ s.2.1=true∧bw s.2.2.2.2.2.2.2.2.1=true∧(s.1=[99,111,112,121]→1≤s.2.2.2.1.length∧s.2.2.2.1.length≤8)∧(s.1=[106,111,105,110]→zJ s.2.2.2.2.2.2.2.2.2.2.2.2=true)∧(s.1=[103,114,111,117,112]→s.2.2.2.1.length=2):=by
 have hp:=wb hst
 rcases hm with o | o | o
 ·rw [KP hw o] at hp
  simp only [aV,j5,aN] at hp
  exact ⟨hp.2.1,hp.1.2.1,fun _=>hp.1.1.2,fun k=>(by rw [o] at k; cases k),fun k=>(by rw [o] at k; cases k)⟩
 ·rw [KQ hw o] at hp
  simp only [aV,mD] at hp
  exact ⟨hp.2.1,hp.1.1,fun k=>(by rw [o] at k; cases k),fun _=>hp.1.2.2.1,fun k=>(by rw [o] at k; cases k)⟩
 ·rw [Hf hw o] at hp
  simp only [aV,f6,aN] at hp
  exact ⟨hp.2.1,hp.1.2.1,fun k=>(by rw [o] at k; cases k),fun k=>(by rw [o] at k; cases k),fun _=>hp.1.1⟩

theorem Fv {n:zw} {cols:List (Sem zh)} {key:Int} {e:ze} (hn:zJ n=true) (h1:1≤cols.length) (h8:cols.length≤8) (hc:∀ c∈cols,JQ c) (hk:lB key cols.length) (hnn:(getD cols (toNat key) (zi zh)).2.2=true)
  (ht:mV (n,cols,key,[],[],e)=0) (hcp:kw 16 e=true) (hm:bw e=true):eD (n,cols,key,[],[],e)=true:=by
 obtain ⟨t1,t2⟩:=MJ ht hcp hm
 refine (oG _).2 ⟨hn,h1,h8,fun i hi=>?_,by simp,by simp,hk,hnn,t2⟩
 have:=hc _ (lA cols (zi zh) hi)
 exact ⟨this.1,this.2.1,this.2.2,t1 i hi⟩

theorem PS {db:List (Sem zj)} {s:Sem zk} (hB:tW db) (hw:nm s) (h0:(cB db s).1=0):eD (cB db s).2.2.2.2.1=true:=by
 unfold cB at h0 ⊢
 by_cases c:kK s.1∧dK s=true∧jP db=(0:Int)
 rotate_left
 ·rw [if_neg c] at h0; exact absurd h0 (by decide)
 rw [if_pos c] at h0 ⊢
 by_cases c2:nt db s.2.2.1 s.2.2.2.2.2.2.2.2.2.2.2.2 s.2.1=0
 rotate_left
 ·rw [if_neg c2] at h0; exact absurd h0 c2
 rw [if_pos c2] at h0 ⊢
 have hsrc:=MG c2
 obtain ⟨hn,hm,m1,m2,m3⟩:=C1 hw c.2.1 c.1
 have hT:kB (aC db s.2.2.1):=sk hB (hsrc _ (by unfold ea; split <;> simp))
 unfold DD at h0 ⊢
 by_cases o1:(s.1==[99,111,112,121])=true
 ·rw [if_pos o1] at h0 ⊢
  obtain ⟨e1,e2,e3⟩:=uB h0
  rw [e3]
  have hl:=m1 (bB o1)
  unfold Bw at e1
  split at e1
  rotate_left
  ·exact absurd e1 (by assumption)
  rename_i hp
  split at e1
  ·cases e1
  rename_i hk
  obtain ⟨p1,p2⟩:=pg hp
  have hlen:(eZ (aC db s.2.2.1) s.2.2.2.1).length=s.2.2.2.1.length:=by unfold eZ; simp
  have hix:(ky (aC db s.2.2.1) s.2.2.2.1).length=s.2.2.2.1.length:=by unfold ky; simp
  rcases GS (ky (aC db s.2.2.1) s.2.2.2.1) (aC db s.2.2.1).2.2.1 with ⟨j,hj,q1,q2,_⟩ | ⟨q1,_⟩
  rotate_left
  ·exact absurd (by rw [q1]; decide) hk
  have hj':j < s.2.2.2.1.length:=by omega
  refine Fv hn (by omega) (by omega) ?_ ?_ ?_ e2 hw.cchk hm
  ·intro x hx
   obtain ⟨s',hs',rfl⟩:=fQ.1 hx
   exact hT.at (p1 s' hs')
  ·rw [q1]; exact ⟨by omega,by omega⟩
  ·rw [q1,bd]
   have hx:(ky (aC db s.2.2.1) s.2.2.2.1)[j]=ae (aC db s.2.2.1) s.2.2.2.1[j]:=List.getElem_map _
   have hy:getD (eZ (aC db s.2.2.1) s.2.2.2.1) j (zi zh)=getD (aC db s.2.2.1).2.1 (toNat (ae (aC db s.2.2.1) s.2.2.2.1[j])) (zi zh):=by
    unfold eZ
    rw [aP,dP,zP hj']
    rfl
   rw [hy,← hx,q2]
   exact hT.nn
 rw [if_neg o1] at h0 ⊢
 by_cases o2:(s.1==[106,111,105,110])=true
 ·rw [if_pos o2] at h0 ⊢
  obtain ⟨e1,e2,e3⟩:=uB h0
  rw [e3]
  have hr:=m2 (bB o2)
  have hne:s.2.2.2.2.2.2.2.2.2.2.2.2≠[]:=by intro k; rw [k] at hr; cases hr
  have hwt:kq db s.2.2.2.2.2.2.2.2.2.2.2.2=aC db s.2.2.2.2.2.2.2.2.2.2.2.2:=by unfold kq; rw [if_neg hne]
  have hU:kB (aC db s.2.2.2.2.2.2.2.2.2.2.2.2):=sk hB (hsrc _ (by unfold ea; rw [if_neg (by simpa using hne)]; simp))
  rw [hwt] at e1 e2 ⊢
  unfold j4 at e1
  split at e1
  ·cases e1
  split at e1
  rotate_left
  ·cases e1
  split at e1
  ·cases e1
  rename_i hlen
  have k1:=hT.key
  have k2:=hU.key
  have u1:=hU.n1
  have t1:=hT.n1
  have hcount:(gC (aC db s.2.2.2.2.2.2.2.2.2.2.2.2) (length (aC db s.2.2.2.2.2.2.2.2.2.2.2.2).2.1)).length=(aC db s.2.2.2.2.2.2.2.2.2.2.2.2).2.1.length - 1:=by
   unfold gC
   rw [dI]
   obtain ⟨k,hk⟩:∃ k:Nat,(aC db s.2.2.2.2.2.2.2.2.2.2.2.2).2.2.1=(k:Int):=⟨_,(Int.toNat_of_nonneg k2.1).symm⟩
   have:=k2.2
   rw [hk] at this ⊢
   rw [y5,if_pos (by omega)]
  refine Fv hn ?_ ?_ ?_ ?_ ?_ e2 hw.cchk hm
  ·rw [iM]; omega
  ·rw [iM,hcount]; omega
  ·intro x hx
   rcases bK.1 hx with hx | hx
   ·exact hT.col x hx
   ·obtain ⟨j,hj,rfl⟩:=fQ.1 hx
    exact hU.col _ (lA _ _ (SI hj))
  ·rw [iM]; exact ⟨k1.1,by have:=k1.2; omega⟩
  ·rw [aP,kv (by have:=k1.2; have:=k1.1; omega),← aP]
   exact hT.nn
 rw [if_neg o2] at h0 ⊢
 by_cases o3:(s.1==[103,114,111,117,112])=true
 ·rw [if_pos o3] at h0 ⊢
  obtain ⟨e1,e2,e3⟩:=uB h0
  rw [e3]
  have hl:=m3 (bB o3)
  unfold BE at e1
  split at e1
  rotate_left
  ·exact absurd e1 (by assumption)
  rename_i hp
  obtain ⟨p1,_⟩:=pg hp
  have hc:∀ j,j < 2→JQ ((eZ (aC db s.2.2.1) s.2.2.2.1).getD j (zi zh)):=by
   intro j hj
   have hm:=lA (eZ (aC db s.2.2.1) s.2.2.2.1) (zi zh) (i:=j) (by unfold eZ; rw [dI]; omega)
   obtain ⟨s',hs',he⟩:=fQ.1 hm
   rw [← he]
   exact hT.at (p1 s' hs')
  refine Fv hn (by unfold Ea; simp) (by unfold Ea; simp) ?_ ⟨by decide,by show (0:Int) < ((2:Nat):Int); decide⟩ rfl e2 hw.cchk hm
  intro x hx
  unfold Ea at hx
  simp only [dQ,List.not_mem_nil,or_false] at hx
  rcases hx with rfl | rfl
  ·exact hc 0 (by omega)
  ·exact hc 1 (by omega)
 ·rw [if_neg o3] at h0; exact absurd h0 (by decide)
end Cad
