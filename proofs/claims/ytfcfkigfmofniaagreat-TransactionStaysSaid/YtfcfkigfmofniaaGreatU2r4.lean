/- Lemmas. -/
import Derived.Test.YtfcfkigfmofniaaGreatRows
import Derived.JoinedOf
import Derived.JoinedAt
import Derived.Handed
set_option linter.all false
set_option maxRecDepth 100000
namespace Go.Proofs.YtfcfkigfmofniaaGreat
open Go Go.Proofs.Tryz
theorem Te:(Rows.transactionStaysRow.wf (OpenSpec.ofChange Rows.transactionStaysSpec))=true:=by kernel_rfl
theorem R6:(laidOutB prog)=true:=by kernel_rfl
theorem Rb:(mapsRowed prog)=true:=by kernel_rfl
theorem Td:(f4.params.all (prog.readableRec ·))=true:=by kernel_rfl
theorem TI:(namedTie prog Rows.transactionStaysRow.named Rows.transactionStaysSpec.vars)=true:=by kernel_rfl
theorem TG:(Rows.transactionStaysRow.stops==[])=true:=by kernel_rfl
theorem TH:(prog.stops==[])=true:=by kernel_rfl
theorem S6:(Rows.transactionStaysRow.knobs==[])=true:=by kernel_rfl
theorem S7:(prog.stopKnobs==[])=true:=by kernel_rfl
theorem S4:(Rows.transactionStaysRow.inPlace==prog.inPlace 4)=true:=by kernel_rfl
theorem TJ:(Rows.transactionStaysRow.unfollowed==prog.unfollowed 4)=true:=by kernel_rfl
theorem TD:(Rows.transactionStaysRow.recurses==prog.recurses 4)=true:=by kernel_rfl
theorem TB:(Rows.transactionStaysRow.named==prog.varsNamed 4)=true:=by kernel_rfl
theorem R7:(Rows.transactionStaysRow.maps==(f4.params.toList++Rows.transactionStaysSpec.plain.varTypes prog).any (prog.mapsRec ·))=true:=by kernel_rfl
theorem S3:(Rows.transactionStaysRow.ifaces==(f4.params.toList++Rows.transactionStaysSpec.plain.varTypes prog).any (prog.ifacesRec ·))=true:=by kernel_rfl
theorem R8:(Rows.transactionStaysRow.mapsOut==prog.mapsAmong f4.resultTypes.toList)=true:=by kernel_rfl
theorem S9:(Rows.transactionStaysRow.loops==(f4.params.toList++Rows.transactionStaysSpec.plain.varTypes prog).any (prog.loopsFrom ·))=true:=by kernel_rfl
theorem TN:(Rows.transactionStaysRow.wideKeys==(f4.params.toList++Rows.transactionStaysSpec.plain.varTypes prog++f4.resultTypes.toList).any (prog.wideKeysFrom ·))=true:=by kernel_rfl
theorem TM:(Rows.transactionStaysSpec.vars.all (prog.varReadable ·))=true:=by kernel_rfl
theorem TE:(f4.resultTypes.all (fun t=>prog.readableRec t&&decide (t<prog.types.size)))=true:=by kernel_rfl
theorem S2:(Rows.transactionStaysRow.ifacesOut==f4.resultTypes.toList.any (prog.ifacesRec ·))=true:=by kernel_rfl
theorem Ra:(Rows.transactionStaysRow.loopsOut==f4.resultTypes.toList.any (prog.loopsFrom ·))=true:=by kernel_rfl
theorem Tc:(Rows.transactionStaysRow.plainKeys==prog.plainKeys)=true:=by kernel_rfl
theorem TF:(Rows.transactionStaysRow.shortTexts.isNone)=true:=by kernel_rfl
theorem S1:(prog.stopsHeard)=true:=by kernel_rfl
theorem S0:(prog.mayEnter)=true:=by kernel_rfl
theorem S8:(Rows.transactionStaysRow.lifted==prog.liftsFinal)=true:=by kernel_rfl
theorem TA:(prog.make==some Rows.transactionStaysRow.make)=true:=by kernel_rfl
theorem S5:(Rows.transactionStaysRow.kinds==(if Rows.transactionStaysRow.domain.isEmpty then[]else f4.params.toList.map fun t=>match prog.underlying t with|some (.int k)=>some k|_=>none))=true:=by kernel_rfl
theorem TC:(Rows.transactionStaysRow.pinned==Rows.transactionStaysRow.pinnedBy)=true:=by kernel_rfl
theorem TL:(Rows.transactionStaysRow.veiled==(f4.params.toList++Rows.transactionStaysSpec.plain.varTypes prog++f4.resultTypes.toList).any (prog.veiledRec ·))=true:=by kernel_rfl
theorem TK:(Rows.transactionStaysRow.veiledFits prog f4.params.toList (f4.params.toList++Rows.transactionStaysSpec.plain.varTypes prog++f4.resultTypes.toList))=true:=by kernel_rfl
theorem R4:prog.funcNamed Rows.transactionStaysRow.func=some 4:=by kernel_rfl
theorem R3:joinedFacts prog 4 f4 Rows.transactionStaysSpec Rows.transactionStaysRow=true:=
 Bool.and_eq_true_iff.2 ⟨Bool.and_eq_true_iff.2 ⟨Bool.and_eq_true_iff.2 ⟨Bool.and_eq_true_iff.2 ⟨Bool.and_eq_true_iff.2 ⟨Bool.and_eq_true_iff.2 ⟨Bool.and_eq_true_iff.2 ⟨Bool.and_eq_true_iff.2 ⟨Bool.and_eq_true_iff.2 ⟨Bool.and_eq_true_iff.2 ⟨Bool.and_eq_true_iff.2 ⟨Bool.and_eq_true_iff.2 ⟨Bool.and_eq_true_iff.2 ⟨Bool.and_eq_true_iff.2 ⟨Bool.and_eq_true_iff.2 ⟨Bool.and_eq_true_iff.2 ⟨Bool.and_eq_true_iff.2 ⟨Bool.and_eq_true_iff.2 ⟨Bool.and_eq_true_iff.2 ⟨Bool.and_eq_true_iff.2 ⟨Bool.and_eq_true_iff.2 ⟨Bool.and_eq_true_iff.2 ⟨Bool.and_eq_true_iff.2 ⟨Bool.and_eq_true_iff.2 ⟨Bool.and_eq_true_iff.2 ⟨Bool.and_eq_true_iff.2 ⟨Bool.and_eq_true_iff.2 ⟨Bool.and_eq_true_iff.2 ⟨Bool.and_eq_true_iff.2 ⟨Bool.and_eq_true_iff.2 ⟨Bool.and_eq_true_iff.2 ⟨Te,R6⟩,Rb⟩,Td⟩,TI⟩,TG⟩,TH⟩,S6⟩,S7⟩,S4⟩,TJ⟩,TD⟩,TB⟩,R7⟩,S3⟩,R8⟩,S9⟩,TN⟩,TM⟩,TE⟩,S2⟩,Ra⟩,Tc⟩,TF⟩,S1⟩,S0⟩,S8⟩,TA⟩,S5⟩,TC⟩,TL⟩,TK⟩
end Go.Proofs.YtfcfkigfmofniaaGreat
