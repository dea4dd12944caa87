/- Lemmas. -/
import Derived.Test.YtmbomnkcdolalaaGreatRows
import Derived.JoinedOf
import Derived.JoinedAt
import Derived.Handed
set_option linter.all false
set_option maxRecDepth 100000
namespace Go.Proofs.YtmbomnkcdolalaaGreat
open Go Go.Proofs.Tryz
theorem Q3:(Rows.transactionRollbackRow.wf (OpenSpec.ofChange Rows.transactionRollbackSpec))=true:=by kernel_rfl
theorem Pr:(laidOutB prog)=true:=by kernel_rfl
theorem O6:(mapsRowed prog)=true:=by kernel_rfl
theorem Q2:(f4.params.all (prog.readableRec ·))=true:=by kernel_rfl
theorem QG:(namedTie prog Rows.transactionRollbackRow.named Rows.transactionRollbackSpec.vars)=true:=by kernel_rfl
theorem QE:(Rows.transactionRollbackRow.stops==[])=true:=by kernel_rfl
theorem QF:(prog.stops==[])=true:=by kernel_rfl
theorem P4:(Rows.transactionRollbackRow.knobs==[])=true:=by kernel_rfl
theorem P5:(prog.stopKnobs==[])=true:=by kernel_rfl
theorem P2:(Rows.transactionRollbackRow.inPlace==prog.inPlace 4)=true:=by kernel_rfl
theorem QH:(Rows.transactionRollbackRow.unfollowed==prog.unfollowed 4)=true:=by kernel_rfl
theorem QB:(Rows.transactionRollbackRow.recurses==prog.recurses 4)=true:=by kernel_rfl
theorem P9:(Rows.transactionRollbackRow.named==prog.varsNamed 4)=true:=by kernel_rfl
theorem Ps:(Rows.transactionRollbackRow.maps==(f4.params.toList++Rows.transactionRollbackSpec.plain.varTypes prog).any (prog.mapsRec ·))=true:=by kernel_rfl
theorem P1:(Rows.transactionRollbackRow.ifaces==(f4.params.toList++Rows.transactionRollbackSpec.plain.varTypes prog).any (prog.ifacesRec ·))=true:=by kernel_rfl
theorem Pt:(Rows.transactionRollbackRow.mapsOut==prog.mapsAmong f4.resultTypes.toList)=true:=by kernel_rfl
theorem P7:(Rows.transactionRollbackRow.loops==(f4.params.toList++Rows.transactionRollbackSpec.plain.varTypes prog).any (prog.loopsFrom ·))=true:=by kernel_rfl
theorem QL:(Rows.transactionRollbackRow.wideKeys==(f4.params.toList++Rows.transactionRollbackSpec.plain.varTypes prog++f4.resultTypes.toList).any (prog.wideKeysFrom ·))=true:=by kernel_rfl
theorem QK:(Rows.transactionRollbackSpec.vars.all (prog.varReadable ·))=true:=by kernel_rfl
theorem QC:(f4.resultTypes.all (fun t=>prog.readableRec t&&decide (t<prog.types.size)))=true:=by kernel_rfl
theorem P0:(Rows.transactionRollbackRow.ifacesOut==f4.resultTypes.toList.any (prog.ifacesRec ·))=true:=by kernel_rfl
theorem O5:(Rows.transactionRollbackRow.loopsOut==f4.resultTypes.toList.any (prog.loopsFrom ·))=true:=by kernel_rfl
theorem Q1:(Rows.transactionRollbackRow.plainKeys==prog.plainKeys)=true:=by kernel_rfl
theorem QD:(Rows.transactionRollbackRow.shortTexts.isNone)=true:=by kernel_rfl
theorem Pz:(prog.stopsHeard)=true:=by kernel_rfl
theorem Py:(prog.mayEnter)=true:=by kernel_rfl
theorem P6:(Rows.transactionRollbackRow.lifted==prog.liftsFinal)=true:=by kernel_rfl
theorem P8:(prog.make==some Rows.transactionRollbackRow.make)=true:=by kernel_rfl
theorem P3:(Rows.transactionRollbackRow.kinds==(if Rows.transactionRollbackRow.domain.isEmpty then[]else f4.params.toList.map fun t=>match prog.underlying t with|some (.int k)=>some k|_=>none))=true:=by kernel_rfl
theorem QA:(Rows.transactionRollbackRow.pinned==Rows.transactionRollbackRow.pinnedBy)=true:=by kernel_rfl
theorem QJ:(Rows.transactionRollbackRow.veiled==(f4.params.toList++Rows.transactionRollbackSpec.plain.varTypes prog++f4.resultTypes.toList).any (prog.veiledRec ·))=true:=by kernel_rfl
theorem QI:(Rows.transactionRollbackRow.veiledFits prog f4.params.toList (f4.params.toList++Rows.transactionRollbackSpec.plain.varTypes prog++f4.resultTypes.toList))=true:=by kernel_rfl
theorem Pp:prog.funcNamed Rows.transactionRollbackRow.func=some 4:=by kernel_rfl
theorem Po:joinedFacts prog 4 f4 Rows.transactionRollbackSpec Rows.transactionRollbackRow=true:=
 Bool.and_eq_true_iff.2 ⟨Bool.and_eq_true_iff.2 ⟨Bool.and_eq_true_iff.2 ⟨Bool.and_eq_true_iff.2 ⟨Bool.and_eq_true_iff.2 ⟨Bool.and_eq_true_iff.2 ⟨Bool.and_eq_true_iff.2 ⟨Bool.and_eq_true_iff.2 ⟨Bool.and_eq_true_iff.2 ⟨Bool.and_eq_true_iff.2 ⟨Bool.and_eq_true_iff.2 ⟨Bool.and_eq_true_iff.2 ⟨Bool.and_eq_true_iff.2 ⟨Bool.and_eq_true_iff.2 ⟨Bool.and_eq_true_iff.2 ⟨Bool.and_eq_true_iff.2 ⟨Bool.and_eq_true_iff.2 ⟨Bool.and_eq_true_iff.2 ⟨Bool.and_eq_true_iff.2 ⟨Bool.and_eq_true_iff.2 ⟨Bool.and_eq_true_iff.2 ⟨Bool.and_eq_true_iff.2 ⟨Bool.and_eq_true_iff.2 ⟨Bool.and_eq_true_iff.2 ⟨Bool.and_eq_true_iff.2 ⟨Bool.and_eq_true_iff.2 ⟨Bool.and_eq_true_iff.2 ⟨Bool.and_eq_true_iff.2 ⟨Bool.and_eq_true_iff.2 ⟨Bool.and_eq_true_iff.2 ⟨Bool.and_eq_true_iff.2 ⟨Q3,Pr⟩,O6⟩,Q2⟩,QG⟩,QE⟩,QF⟩,P4⟩,P5⟩,P2⟩,QH⟩,QB⟩,P9⟩,Ps⟩,P1⟩,Pt⟩,P7⟩,QL⟩,QK⟩,QC⟩,P0⟩,O5⟩,Q1⟩,QD⟩,Pz⟩,Py⟩,P6⟩,P8⟩,P3⟩,QA⟩,QJ⟩,QI⟩
end Go.Proofs.YtmbomnkcdolalaaGreat
