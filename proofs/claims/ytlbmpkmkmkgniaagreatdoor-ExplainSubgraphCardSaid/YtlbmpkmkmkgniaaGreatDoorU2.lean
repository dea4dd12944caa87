/- Lemmas. -/
import Derived.Test.YtlbmpkmkmkgniaaGreatDoorRows
import Derived.JoinedOf
import Derived.JoinedAt
import Derived.Handed
set_option linter.all false
set_option maxRecDepth 100000
namespace Go.Proofs.YtlbmpkmkmkgniaaGreatDoor
open Go Go.Proofs.Tryz
theorem Qo:(Rows.explainSubgraphRow.wf (OpenSpec.ofChange Rows.explainSubgraphSpec))=true:=by kernel_rfl
theorem PM:(laidOutB prog)=true:=by kernel_rfl
theorem Ot:(mapsRowed prog)=true:=by kernel_rfl
theorem Qn:(f8.params.all (prog.readableRec ·))=true:=by kernel_rfl
theorem QP:(namedTie prog Rows.explainSubgraphRow.named Rows.explainSubgraphSpec.vars)=true:=by kernel_rfl
theorem QN:(Rows.explainSubgraphRow.stops==[])=true:=by kernel_rfl
theorem QO:(prog.stops==[])=true:=by kernel_rfl
theorem QD:(Rows.explainSubgraphRow.knobs==[])=true:=by kernel_rfl
theorem QE:(prog.stopKnobs==[])=true:=by kernel_rfl
theorem QB:(Rows.explainSubgraphRow.inPlace==prog.inPlace 8)=true:=by kernel_rfl
theorem QR:(Rows.explainSubgraphRow.unfollowed==prog.unfollowed 8)=true:=by kernel_rfl
theorem QK:(Rows.explainSubgraphRow.recurses==prog.recurses 8)=true:=by kernel_rfl
theorem QI:(Rows.explainSubgraphRow.named==prog.varsNamed 8)=true:=by kernel_rfl
theorem PO:(Rows.explainSubgraphRow.maps==(f8.params.toList++Rows.explainSubgraphSpec.plain.varTypes prog).any (prog.mapsRec ·))=true:=by kernel_rfl
theorem QA:(Rows.explainSubgraphRow.ifaces==(f8.params.toList++Rows.explainSubgraphSpec.plain.varTypes prog).any (prog.ifacesRec ·))=true:=by kernel_rfl
theorem PP:(Rows.explainSubgraphRow.mapsOut==prog.mapsAmong f8.resultTypes.toList)=true:=by kernel_rfl
theorem QG:(Rows.explainSubgraphRow.loops==(f8.params.toList++Rows.explainSubgraphSpec.plain.varTypes prog).any (prog.loopsFrom ·))=true:=by kernel_rfl
theorem QW:(Rows.explainSubgraphRow.wideKeys==(f8.params.toList++Rows.explainSubgraphSpec.plain.varTypes prog++f8.resultTypes.toList).any (prog.wideKeysFrom ·))=true:=by kernel_rfl
theorem QU:(Rows.explainSubgraphSpec.vars.all (prog.varReadable ·))=true:=by kernel_rfl
theorem QL:(f8.resultTypes.all (fun t=>prog.readableRec t&&decide (t<prog.types.size)))=true:=by kernel_rfl
theorem P9:(Rows.explainSubgraphRow.ifacesOut==f8.resultTypes.toList.any (prog.ifacesRec ·))=true:=by kernel_rfl
theorem Oq:(Rows.explainSubgraphRow.loopsOut==f8.resultTypes.toList.any (prog.loopsFrom ·))=true:=by kernel_rfl
theorem Qm:(Rows.explainSubgraphRow.plainKeys==prog.plainKeys)=true:=by kernel_rfl
theorem QM:(Rows.explainSubgraphRow.shortTexts.isNone)=true:=by kernel_rfl
theorem P8:(prog.stopsHeard)=true:=by kernel_rfl
theorem P7:(prog.mayEnter)=true:=by kernel_rfl
theorem QF:(Rows.explainSubgraphRow.lifted==prog.liftsFinal)=true:=by kernel_rfl
theorem QH:(prog.make==some Rows.explainSubgraphRow.make)=true:=by kernel_rfl
theorem QC:(Rows.explainSubgraphRow.kinds==(if Rows.explainSubgraphRow.domain.isEmpty then [] else f8.params.toList.map fun t=>match prog.underlying t with | some (.int k)=>some k | _=>none))=true:=by kernel_rfl
theorem QJ:(Rows.explainSubgraphRow.pinned==Rows.explainSubgraphRow.pinnedBy)=true:=by kernel_rfl
theorem QT:(Rows.explainSubgraphRow.veiled==(f8.params.toList++Rows.explainSubgraphSpec.plain.varTypes prog++f8.resultTypes.toList).any (prog.veiledRec ·))=true:=by kernel_rfl
theorem QS:(Rows.explainSubgraphRow.veiledFits prog f8.params.toList (f8.params.toList++Rows.explainSubgraphSpec.plain.varTypes prog++f8.resultTypes.toList))=true:=by kernel_rfl
theorem MB:prog.funcNamed Rows.explainSubgraphRow.func=some 8:=by kernel_rfl
theorem PJ:joinedFacts prog 8 f8 Rows.explainSubgraphSpec Rows.explainSubgraphRow=true:=
 Bool.and_eq_true_iff.2 ⟨Bool.and_eq_true_iff.2 ⟨Bool.and_eq_true_iff.2 ⟨Bool.and_eq_true_iff.2 ⟨Bool.and_eq_true_iff.2 ⟨Bool.and_eq_true_iff.2 ⟨Bool.and_eq_true_iff.2 ⟨Bool.and_eq_true_iff.2 ⟨Bool.and_eq_true_iff.2 ⟨Bool.and_eq_true_iff.2 ⟨Bool.and_eq_true_iff.2 ⟨Bool.and_eq_true_iff.2 ⟨Bool.and_eq_true_iff.2 ⟨Bool.and_eq_true_iff.2 ⟨Bool.and_eq_true_iff.2 ⟨Bool.and_eq_true_iff.2 ⟨Bool.and_eq_true_iff.2 ⟨Bool.and_eq_true_iff.2 ⟨Bool.and_eq_true_iff.2 ⟨Bool.and_eq_true_iff.2 ⟨Bool.and_eq_true_iff.2 ⟨Bool.and_eq_true_iff.2 ⟨Bool.and_eq_true_iff.2 ⟨Bool.and_eq_true_iff.2 ⟨Bool.and_eq_true_iff.2 ⟨Bool.and_eq_true_iff.2 ⟨Bool.and_eq_true_iff.2 ⟨Bool.and_eq_true_iff.2 ⟨Bool.and_eq_true_iff.2 ⟨Bool.and_eq_true_iff.2 ⟨Bool.and_eq_true_iff.2 ⟨Qo,PM⟩,Ot⟩,Qn⟩,QP⟩,QN⟩,QO⟩,QD⟩,QE⟩,QB⟩,QR⟩,QK⟩,QI⟩,PO⟩,QA⟩,PP⟩,QG⟩,QW⟩,QU⟩,QL⟩,P9⟩,Oq⟩,Qm⟩,QM⟩,P8⟩,P7⟩,QF⟩,QH⟩,QC⟩,QJ⟩,QT⟩,QS⟩
end Go.Proofs.YtlbmpkmkmkgniaaGreatDoor
