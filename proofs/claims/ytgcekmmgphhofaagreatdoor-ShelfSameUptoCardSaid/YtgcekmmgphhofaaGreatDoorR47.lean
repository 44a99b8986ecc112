/- The witness. -/
import Derived.Test.YtgcekmmgphhofaaGreatDoorR46
import Derived.Test.YtgcekmmgphhofaaGreatDoorCards
import Derived.Test.YtgcekmmgphhofaaGreatDoorTie
import Derived.Deep.DeepHandedRow
import Derived.Lib.LaidCaseMet
namespace Go.Proofs.YtgcekmmgphhofaaGreatDoor
open Go.ChangeShapes Go.WideShapes Go.ChangeAt Go.RowKit Go.Lib

theorem own0:ownKnob Tryz.prog.godebug=none:=by kernel_rfl

def litInts:List (DataW Unit)→List Value
 | []=>[]
 | .lit (.int k n)::r=>.int k n::litInts r
 | .lit (.string s)::r=>.string ⟨s.toArray⟩::litInts r
 | .agg l::r=>(match l with
  | [.lit (.int k n),.lit (.int k' n')]=>[Value.int k n,Value.int k' n']
  | _=>[])++litInts r
 | _::r=>litInts r
def cellsOfD:DataW Unit→Array Value
 | .agg l=>(litInts l).toArray
 | _ => #[]

noncomputable def laidWorld (os:Os):World:=
 let N:=(World.settled Tryz.prog os).heap.size
 let w0:=World.holding Tryz.prog os ⟨#[.cells Lib.caseCells5 (Tryz.lays158_ren.t 208),.cells #[.string ⟨#[105,110,118,97,108,105,100,32,115,121,110,116,97,120]⟩] 349,.cells #[.string ⟨#[118,97,108,117,101,32,111,117,116,32,111,102,32,114,97,110,103,101]⟩] 349],#[],[]⟩
 let put (h:Array Obj) (g:Nat) (cs:Array Value):Array Obj:=h.modify g fun
  | .cells _ t frozen=>.cells cs t frozen
  | o=>o
 let h0:=put w0.heap 7 (cellsOfD Rows.laid_caddis_stmt_types)
 let h1:=put h0 8 (cellsOfD Rows.laid_unicode_utf8_first)
 let h2:=put h1 9 (cellsOfD Rows.laid_unicode_utf8_acceptRanges)
 let h3:=put h2 3 (cellsOfD Rows.laid_internal_strconv_uint64pow10)
 let h4:=put h3 5 (cellsOfD Rows.laid_math_bits_deBruijn32tab)
 let h5:=put h4 6 (cellsOfD Rows.laid_math_bits_deBruijn64tab)
 let h6:=put h5 4 #[.slice (some ⟨N,0,none⟩) 336 336]
 let h7:=put h6 1 #[.iface 347 (.pointer (some ⟨N+1,0,none⟩))]
 let h8:=put h7 2 #[.iface 347 (.pointer (some ⟨N+2,0,none⟩))]
 { w0 with heap:=h8 }

abbrev laidL:List (String×DataW Unit):=[("math/bits.deBruijn32tab",Rows.laid_math_bits_deBruijn32tab),("math/bits.deBruijn64tab",Rows.laid_math_bits_deBruijn64tab),("internal/strconv.uint64pow10",Rows.laid_internal_strconv_uint64pow10),("unicode/utf8.acceptRanges",Rows.laid_unicode_utf8_acceptRanges),("strconv.ErrRange",Rows.laid_strconv_ErrRange),("strconv.ErrSyntax",Rows.laid_strconv_ErrSyntax),("caddis/stmt.types",Rows.laid_caddis_stmt_types),("unicode/utf8.first",Rows.laid_unicode_utf8_first)]

theorem laid_met1 (os:Os) (args:Array Value):laidMet Tryz.prog (laidL++[("unicode.CaseRanges",Lib.caseData)]) ((laidWorld os).forCall (fun _ _=>0) ⟨#[],args,[]⟩).memory:=
 laidMet_with_case (ρ:=Tryz.lays158_ren) { Tryz.lays158 with } Tryz.lays158.t206 ⟨by kernel_rfl,by kernel_rfl,by kernel_rfl,by kernel_rfl,by kernel_rfl,by kernel_rfl⟩
  (l:=laidL) 10 (by kernel_rfl) (by kernel_rfl) (by kernel_rfl) ((World.settled Tryz.prog default).heap.size) (Tryz.lays158_ren.t 208) (of_decide_eq_true (by kernel_rfl)) (by kernel_rfl) (by kernel_rfl) (by kernel_rfl)

theorem laidVars_swap {P:Program} {w:World} {x y:String×DataW Unit}:∀ {l:List (String×DataW Unit)} {ps:List MemPlace},DataW.LaidVars P w (l++[x,y]) ps→∃ ps',DataW.LaidVars P w (l++[y,x]) ps'∧ps'.Perm ps
 | [],ps,h=>by
  obtain ⟨nx,dx⟩:=x
  obtain ⟨ny,dy⟩:=y
  obtain ⟨g,t,cs,fuel,p,q,h1,h2,h3,h4,⟨g',t',cs',fuel',p',q',h1',h2',h3',h4',h5',rfl⟩,rfl⟩:=h
  have h5':q'=[]:=h5'
  subst h5'
  refine ⟨_,⟨g',t',cs',fuel',p',_,h1',h2',h3',h4',⟨g,t,cs,fuel,p,[],h1,h2,h3,h4,rfl,rfl⟩,rfl⟩,?_⟩
  simp only [List.append_nil]
  exact List.perm_append_comm
 | (n,d)::l,ps,h=>by
  obtain ⟨g,t,cs,fuel,p,q,h1,h2,h3,h4,h5,rfl⟩:=h
  obtain ⟨q',h6,hp⟩:=laidVars_swap h5
  exact ⟨_,⟨g,t,cs,fuel,p,q',h1,h2,h3,h4,h6,rfl⟩,hp.append_left _⟩

theorem laidMet_swap {P:Program} {w:World} {l:List (String×DataW Unit)} {x y:String×DataW Unit} (h:laidMet P (l++[x,y]) w):laidMet P (l++[y,x]) w:=by
 obtain ⟨ps,h1,h2,h3⟩:=h
 obtain ⟨ps',h4,hp⟩:=laidVars_swap h1
 exact ⟨ps',h4,hp.nodup_iff.2 h2,fun b off hm=>h3 b off (hp.mem_iff.1 hm)⟩

theorem laid_met (os:Os) (args:Array Value):laidMet Tryz.prog Rows.shelfSameUptoRow.laid ((laidWorld os).forCall (fun _ _=>0) ⟨#[],args,[]⟩).memory:=by
 have h:=laid_met1 os args
 have h2:=laidMet_swap (l:=laidL.take 7) (x:=("unicode/utf8.first",Rows.laid_unicode_utf8_first)) (y:=("unicode.CaseRanges",Lib.caseData)) h
 have e:Rows.shelfSameUptoRow.laid=laidL.take 7++[("unicode.CaseRanges",Lib.caseData),("unicode/utf8.first",Rows.laid_unicode_utf8_first)]:=by kernel_rfl
 rw [e]
 exact h2
end Go.Proofs.YtgcekmmgphhofaaGreatDoor
