/- The row's facts. -/
import Derived.Test.YtgcekmmgphhofaaGreatDoorRows
import Derived.OpenShut
import Derived.ProofKit
namespace Go.Proofs.YtgcekmmgphhofaaGreatDoor
open Go.ChangeShapes Go.WideShapes Go.ChangeAt Go.RowKit

theorem ff0:(Rows.shelfSameUptoRow.wf (OpenSpec.ofChange (Rows.OpenSpec.upto Rows.shelfSameSpec).bare))=true:=by kernel_rfl
theorem ff1:(laidOutB Tryz.pinned.checked.prog)=true:=by kernel_rfl
theorem ff2:(mapsRowed Tryz.pinned.checked.prog)=true:=by kernel_rfl
theorem ff3:(Tryz.f3.params.all (Tryz.pinned.checked.prog.readableRec ·))=true:=by kernel_rfl
theorem ff4:(namedTie Tryz.pinned.checked.prog Rows.shelfSameUptoRow.named (Rows.OpenSpec.upto Rows.shelfSameSpec).bare.vars)=true:=by kernel_rfl
theorem ff5:((Rows.shelfSameUptoRow.stops==[]))=true:=by kernel_rfl
theorem ff6:((Tryz.pinned.checked.prog.stops==[]))=true:=by kernel_rfl
theorem ff7:((Rows.shelfSameUptoRow.knobs==[]))=true:=by kernel_rfl
theorem ff8:((Tryz.pinned.checked.prog.stopKnobs==[]))=true:=by kernel_rfl
theorem ff9:((Rows.shelfSameUptoRow.inPlace==Tryz.pinned.checked.prog.inPlace 3))=true:=by kernel_rfl
theorem ff10:((Rows.shelfSameUptoRow.unfollowed==Tryz.pinned.checked.prog.unfollowed 3))=true:=by kernel_rfl
theorem ff11:((Rows.shelfSameUptoRow.recurses==Tryz.pinned.checked.prog.recurses 3))=true:=by kernel_rfl
theorem ff12:((Rows.shelfSameUptoRow.named==Tryz.pinned.checked.prog.varsNamed 3))=true:=by kernel_rfl
theorem ff13:((Rows.shelfSameUptoRow.maps==(Tryz.f3.params.toList++(Rows.OpenSpec.upto Rows.shelfSameSpec).bare.plain.varTypes Tryz.pinned.checked.prog).any (Tryz.pinned.checked.prog.mapsRec ·)))=true:=by kernel_rfl
theorem ff14:((Rows.shelfSameUptoRow.ifaces==(Tryz.f3.params.toList++(Rows.OpenSpec.upto Rows.shelfSameSpec).bare.plain.varTypes Tryz.pinned.checked.prog).any (Tryz.pinned.checked.prog.ifacesRec ·)))=true:=by kernel_rfl
theorem ff15:((Rows.shelfSameUptoRow.mapsOut==Tryz.pinned.checked.prog.mapsAmong Tryz.f3.resultTypes.toList))=true:=by kernel_rfl
theorem ff16:((Rows.shelfSameUptoRow.loops==(Tryz.f3.params.toList++(Rows.OpenSpec.upto Rows.shelfSameSpec).bare.plain.varTypes Tryz.pinned.checked.prog).any (Tryz.pinned.checked.prog.loopsFrom ·)))=true:=by kernel_rfl
theorem ff17:((Rows.shelfSameUptoRow.wideKeys==(Tryz.f3.params.toList++(Rows.OpenSpec.upto Rows.shelfSameSpec).bare.plain.varTypes Tryz.pinned.checked.prog++Tryz.f3.resultTypes.toList).any (Tryz.pinned.checked.prog.wideKeysFrom ·)))=true:=by kernel_rfl
theorem ff18:((Rows.OpenSpec.upto Rows.shelfSameSpec).bare.vars.all (Tryz.pinned.checked.prog.varReadable ·))=true:=by kernel_rfl
theorem ff19:(Tryz.f3.resultTypes.all (fun t=>Tryz.pinned.checked.prog.readableRec t&&decide (t < Tryz.pinned.checked.prog.types.size)))=true:=by kernel_rfl
theorem ff20:((Rows.shelfSameUptoRow.ifacesOut==Tryz.f3.resultTypes.toList.any (Tryz.pinned.checked.prog.ifacesRec ·)))=true:=by kernel_rfl
theorem ff21:((Rows.shelfSameUptoRow.loopsOut==Tryz.f3.resultTypes.toList.any (Tryz.pinned.checked.prog.loopsFrom ·)))=true:=by kernel_rfl
theorem ff22:((Rows.shelfSameUptoRow.plainKeys==Tryz.pinned.checked.prog.plainKeys))=true:=by kernel_rfl
theorem ff23:(Rows.shelfSameUptoRow.shortTexts.isNone)=true:=by kernel_rfl
theorem ff24:(Tryz.pinned.checked.prog.stopsHeard)=true:=by kernel_rfl
theorem ff25:(Tryz.pinned.checked.prog.mayEnter)=true:=by kernel_rfl
theorem ff26:((Rows.shelfSameUptoRow.lifted==Tryz.pinned.checked.prog.liftsFinal))=true:=by kernel_rfl
theorem ff27:((Tryz.pinned.checked.prog.make==some Rows.shelfSameUptoRow.make))=true:=by kernel_rfl
theorem ff29:((Rows.shelfSameUptoRow.pinned==Rows.shelfSameUptoRow.pinnedBy))=true:=by kernel_rfl
theorem ff30:((Rows.shelfSameUptoRow.veiled==(Tryz.f3.params.toList++(Rows.OpenSpec.upto Rows.shelfSameSpec).bare.plain.varTypes Tryz.pinned.checked.prog++Tryz.f3.resultTypes.toList).any (Tryz.pinned.checked.prog.veiledRec ·)))=true:=by kernel_rfl
theorem ff31:(Rows.shelfSameUptoRow.veiledFits Tryz.pinned.checked.prog Tryz.f3.params.toList (Tryz.f3.params.toList++(Rows.OpenSpec.upto Rows.shelfSameSpec).bare.plain.varTypes Tryz.pinned.checked.prog++Tryz.f3.resultTypes.toList))=true:=by kernel_rfl
theorem facts3:joinedFacts Tryz.pinned.checked.prog 3 Tryz.f3 (Rows.OpenSpec.upto Rows.shelfSameSpec).bare Rows.shelfSameUptoRow=true:=by
 unfold joinedFacts
 simp only [Bool.and_eq_true]
 exact ⟨⟨⟨⟨⟨⟨⟨⟨⟨⟨⟨⟨⟨⟨⟨⟨⟨⟨⟨⟨⟨⟨⟨⟨⟨⟨⟨⟨⟨⟨⟨ff0,ff1⟩,ff2⟩,ff3⟩,ff4⟩,ff5⟩,ff6⟩,ff7⟩,ff8⟩,ff9⟩,ff10⟩,ff11⟩,ff12⟩,ff13⟩,ff14⟩,ff15⟩,ff16⟩,ff17⟩,ff18⟩,ff19⟩,ff20⟩,ff21⟩,ff22⟩,ff23⟩,ff24⟩,ff25⟩,ff26⟩,ff27⟩,(by kernel_rfl)⟩,ff29⟩,ff30⟩,ff31⟩
end Go.Proofs.YtgcekmmgphhofaaGreatDoor
