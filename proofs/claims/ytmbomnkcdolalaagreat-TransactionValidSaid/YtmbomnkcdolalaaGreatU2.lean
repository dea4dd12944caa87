/- Lemmas. -/
import Derived.Test.YtmbomnkcdolalaaGreatRows
import Derived.JoinedOf
import Derived.JoinedAt
import Derived.Handed
set_option linter.all false
set_option maxRecDepth 100000
namespace Go.Proofs.YtmbomnkcdolalaaGreat
open Go Go.Proofs.Tryz
theorem RO:(Rows.transactionValidRow.wf (OpenSpec.ofChange Rows.transactionValidSpec))=true:=by kernel_rfl
theorem P1:(laidOutB prog)=true:=by kernel_rfl
theorem Pe:(mapsRowed prog)=true:=by kernel_rfl
theorem RN:(f3.params.all (prog.readableRec ·))=true:=by kernel_rfl
theorem Q7:(namedTie prog Rows.transactionValidRow.named Rows.transactionValidSpec.vars)=true:=by kernel_rfl
theorem Q5:(Rows.transactionValidRow.stops==[])=true:=by kernel_rfl
theorem Q6:(prog.stops==[])=true:=by kernel_rfl
theorem Qv:(Rows.transactionValidRow.knobs==[])=true:=by kernel_rfl
theorem Qw:(prog.stopKnobs==[])=true:=by kernel_rfl
theorem Qt:(Rows.transactionValidRow.inPlace==prog.inPlace 3)=true:=by kernel_rfl
theorem Q8:(Rows.transactionValidRow.unfollowed==prog.unfollowed 3)=true:=by kernel_rfl
theorem Q2:(Rows.transactionValidRow.recurses==prog.recurses 3)=true:=by kernel_rfl
theorem Q0:(Rows.transactionValidRow.named==prog.varsNamed 3)=true:=by kernel_rfl
theorem P2:(Rows.transactionValidRow.maps==(f3.params.toList++Rows.transactionValidSpec.plain.varTypes prog).any (prog.mapsRec ·))=true:=by kernel_rfl
theorem Qs:(Rows.transactionValidRow.ifaces==(f3.params.toList++Rows.transactionValidSpec.plain.varTypes prog).any (prog.ifacesRec ·))=true:=by kernel_rfl
theorem P3:(Rows.transactionValidRow.mapsOut==prog.mapsAmong f3.resultTypes.toList)=true:=by kernel_rfl
theorem Qy:(Rows.transactionValidRow.loops==(f3.params.toList++Rows.transactionValidSpec.plain.varTypes prog).any (prog.loopsFrom ·))=true:=by kernel_rfl
theorem RC:(Rows.transactionValidRow.wideKeys==(f3.params.toList++Rows.transactionValidSpec.plain.varTypes prog++f3.resultTypes.toList).any (prog.wideKeysFrom ·))=true:=by kernel_rfl
theorem RB:(Rows.transactionValidSpec.vars.all (prog.varReadable ·))=true:=by kernel_rfl
theorem Q3:(f3.resultTypes.all (fun t=>prog.readableRec t&&decide (t<prog.types.size)))=true:=by kernel_rfl
theorem Qr:(Rows.transactionValidRow.ifacesOut==f3.resultTypes.toList.any (prog.ifacesRec ·))=true:=by kernel_rfl
theorem Pd:(Rows.transactionValidRow.loopsOut==f3.resultTypes.toList.any (prog.loopsFrom ·))=true:=by kernel_rfl
theorem RM:(Rows.transactionValidRow.plainKeys==prog.plainKeys)=true:=by kernel_rfl
theorem Q4:(Rows.transactionValidRow.shortTexts.isNone)=true:=by kernel_rfl
theorem Qq:(prog.stopsHeard)=true:=by kernel_rfl
theorem Qp:(prog.mayEnter)=true:=by kernel_rfl
theorem Qx:(Rows.transactionValidRow.lifted==prog.liftsFinal)=true:=by kernel_rfl
theorem Qz:(prog.make==some Rows.transactionValidRow.make)=true:=by kernel_rfl
theorem Qu:(Rows.transactionValidRow.kinds==(if Rows.transactionValidRow.domain.isEmpty then[]else f3.params.toList.map fun t=>match prog.underlying t with|some (.int k)=>some k|_=>none))=true:=by kernel_rfl
theorem Q1:(Rows.transactionValidRow.pinned==Rows.transactionValidRow.pinnedBy)=true:=by kernel_rfl
theorem RA:(Rows.transactionValidRow.veiled==(f3.params.toList++Rows.transactionValidSpec.plain.varTypes prog++f3.resultTypes.toList).any (prog.veiledRec ·))=true:=by kernel_rfl
theorem Q9:(Rows.transactionValidRow.veiledFits prog f3.params.toList (f3.params.toList++Rows.transactionValidSpec.plain.varTypes prog++f3.resultTypes.toList))=true:=by kernel_rfl
theorem Pz:prog.funcNamed Rows.transactionValidRow.func=some 3:=by kernel_rfl
theorem Py:joinedFacts prog 3 f3 Rows.transactionValidSpec Rows.transactionValidRow=true:=
 Bool.and_eq_true_iff.2 ⟨Bool.and_eq_true_iff.2 ⟨Bool.and_eq_true_iff.2 ⟨Bool.and_eq_true_iff.2 ⟨Bool.and_eq_true_iff.2 ⟨Bool.and_eq_true_iff.2 ⟨Bool.and_eq_true_iff.2 ⟨Bool.and_eq_true_iff.2 ⟨Bool.and_eq_true_iff.2 ⟨Bool.and_eq_true_iff.2 ⟨Bool.and_eq_true_iff.2 ⟨Bool.and_eq_true_iff.2 ⟨Bool.and_eq_true_iff.2 ⟨Bool.and_eq_true_iff.2 ⟨Bool.and_eq_true_iff.2 ⟨Bool.and_eq_true_iff.2 ⟨Bool.and_eq_true_iff.2 ⟨Bool.and_eq_true_iff.2 ⟨Bool.and_eq_true_iff.2 ⟨Bool.and_eq_true_iff.2 ⟨Bool.and_eq_true_iff.2 ⟨Bool.and_eq_true_iff.2 ⟨Bool.and_eq_true_iff.2 ⟨Bool.and_eq_true_iff.2 ⟨Bool.and_eq_true_iff.2 ⟨Bool.and_eq_true_iff.2 ⟨Bool.and_eq_true_iff.2 ⟨Bool.and_eq_true_iff.2 ⟨Bool.and_eq_true_iff.2 ⟨Bool.and_eq_true_iff.2 ⟨Bool.and_eq_true_iff.2 ⟨RO,P1⟩,Pe⟩,RN⟩,Q7⟩,Q5⟩,Q6⟩,Qv⟩,Qw⟩,Qt⟩,Q8⟩,Q2⟩,Q0⟩,P2⟩,Qs⟩,P3⟩,Qy⟩,RC⟩,RB⟩,Q3⟩,Qr⟩,Pd⟩,RM⟩,Q4⟩,Qq⟩,Qp⟩,Qx⟩,Qz⟩,Qu⟩,Q1⟩,RA⟩,Q9⟩
end Go.Proofs.YtmbomnkcdolalaaGreat
