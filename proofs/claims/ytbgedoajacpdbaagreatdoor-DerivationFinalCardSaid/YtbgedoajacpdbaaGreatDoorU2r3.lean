/- Lemmas. -/
import Derived.Test.YtbgedoajacpdbaaGreatDoorRows
import Derived.JoinedOf
import Derived.JoinedAt
import Derived.Handed
set_option linter.all false
set_option maxRecDepth 100000
namespace Go.Proofs.YtbgedoajacpdbaaGreatDoor
open Go Go.Proofs.Tryz
theorem Rm:(Rows.derivationFinalRow.wf (OpenSpec.ofChange Rows.derivationFinalSpec))=true:=by kernel_rfl
theorem QF:(laidOutB prog)=true:=by kernel_rfl
theorem Pj:(mapsRowed prog)=true:=by kernel_rfl
theorem Rl:(f3.params.all (prog.readableRec ·))=true:=by kernel_rfl
theorem RI:(namedTie prog Rows.derivationFinalRow.named Rows.derivationFinalSpec.vars)=true:=by kernel_rfl
theorem RG:(Rows.derivationFinalRow.stops==[])=true:=by kernel_rfl
theorem RH:(prog.stops==[])=true:=by kernel_rfl
theorem Q6:(Rows.derivationFinalRow.knobs==[])=true:=by kernel_rfl
theorem Q7:(prog.stopKnobs==[])=true:=by kernel_rfl
theorem Q4:(Rows.derivationFinalRow.inPlace==prog.inPlace 3)=true:=by kernel_rfl
theorem RJ:(Rows.derivationFinalRow.unfollowed==prog.unfollowed 3)=true:=by kernel_rfl
theorem RD:(Rows.derivationFinalRow.recurses==prog.recurses 3)=true:=by kernel_rfl
theorem RB:(Rows.derivationFinalRow.named==prog.varsNamed 3)=true:=by kernel_rfl
theorem QH:(Rows.derivationFinalRow.maps==(f3.params.toList++Rows.derivationFinalSpec.plain.varTypes prog).any (prog.mapsRec ·))=true:=by kernel_rfl
theorem Q3:(Rows.derivationFinalRow.ifaces==(f3.params.toList++Rows.derivationFinalSpec.plain.varTypes prog).any (prog.ifacesRec ·))=true:=by kernel_rfl
theorem QI:(Rows.derivationFinalRow.mapsOut==prog.mapsAmong f3.resultTypes.toList)=true:=by kernel_rfl
theorem Q9:(Rows.derivationFinalRow.loops==(f3.params.toList++Rows.derivationFinalSpec.plain.varTypes prog).any (prog.loopsFrom ·))=true:=by kernel_rfl
theorem RO:(Rows.derivationFinalRow.wideKeys==(f3.params.toList++Rows.derivationFinalSpec.plain.varTypes prog++f3.resultTypes.toList).any (prog.wideKeysFrom ·))=true:=by kernel_rfl
theorem RM:(Rows.derivationFinalSpec.vars.all (prog.varReadable ·))=true:=by kernel_rfl
theorem RE:(f3.resultTypes.all (fun t=>prog.readableRec t&&decide (t<prog.types.size)))=true:=by kernel_rfl
theorem Q2:(Rows.derivationFinalRow.ifacesOut==f3.resultTypes.toList.any (prog.ifacesRec ·))=true:=by kernel_rfl
theorem Ph:(Rows.derivationFinalRow.loopsOut==f3.resultTypes.toList.any (prog.loopsFrom ·))=true:=by kernel_rfl
theorem Rk:(Rows.derivationFinalRow.plainKeys==prog.plainKeys)=true:=by kernel_rfl
theorem RF:(Rows.derivationFinalRow.shortTexts.isNone)=true:=by kernel_rfl
theorem Q1:(prog.stopsHeard)=true:=by kernel_rfl
theorem Q0:(prog.mayEnter)=true:=by kernel_rfl
theorem Q8:(Rows.derivationFinalRow.lifted==prog.liftsFinal)=true:=by kernel_rfl
theorem RA:(prog.make==some Rows.derivationFinalRow.make)=true:=by kernel_rfl
theorem Q5:(Rows.derivationFinalRow.kinds==(if Rows.derivationFinalRow.domain.isEmpty then[]else f3.params.toList.map fun t=>match prog.underlying t with|some (.int k)=>some k|_=>none))=true:=by kernel_rfl
theorem RC:(Rows.derivationFinalRow.pinned==Rows.derivationFinalRow.pinnedBy)=true:=by kernel_rfl
theorem RL:(Rows.derivationFinalRow.veiled==(f3.params.toList++Rows.derivationFinalSpec.plain.varTypes prog++f3.resultTypes.toList).any (prog.veiledRec ·))=true:=by kernel_rfl
theorem RK:(Rows.derivationFinalRow.veiledFits prog f3.params.toList (f3.params.toList++Rows.derivationFinalSpec.plain.varTypes prog++f3.resultTypes.toList))=true:=by kernel_rfl
theorem Lp:prog.funcNamed Rows.derivationFinalRow.func=some 3:=by kernel_rfl
theorem QC:joinedFacts prog 3 f3 Rows.derivationFinalSpec Rows.derivationFinalRow=true:=
 Bool.and_eq_true_iff.2 ⟨Bool.and_eq_true_iff.2 ⟨Bool.and_eq_true_iff.2 ⟨Bool.and_eq_true_iff.2 ⟨Bool.and_eq_true_iff.2 ⟨Bool.and_eq_true_iff.2 ⟨Bool.and_eq_true_iff.2 ⟨Bool.and_eq_true_iff.2 ⟨Bool.and_eq_true_iff.2 ⟨Bool.and_eq_true_iff.2 ⟨Bool.and_eq_true_iff.2 ⟨Bool.and_eq_true_iff.2 ⟨Bool.and_eq_true_iff.2 ⟨Bool.and_eq_true_iff.2 ⟨Bool.and_eq_true_iff.2 ⟨Bool.and_eq_true_iff.2 ⟨Bool.and_eq_true_iff.2 ⟨Bool.and_eq_true_iff.2 ⟨Bool.and_eq_true_iff.2 ⟨Bool.and_eq_true_iff.2 ⟨Bool.and_eq_true_iff.2 ⟨Bool.and_eq_true_iff.2 ⟨Bool.and_eq_true_iff.2 ⟨Bool.and_eq_true_iff.2 ⟨Bool.and_eq_true_iff.2 ⟨Bool.and_eq_true_iff.2 ⟨Bool.and_eq_true_iff.2 ⟨Bool.and_eq_true_iff.2 ⟨Bool.and_eq_true_iff.2 ⟨Bool.and_eq_true_iff.2 ⟨Bool.and_eq_true_iff.2 ⟨Rm,QF⟩,Pj⟩,Rl⟩,RI⟩,RG⟩,RH⟩,Q6⟩,Q7⟩,Q4⟩,RJ⟩,RD⟩,RB⟩,QH⟩,Q3⟩,QI⟩,Q9⟩,RO⟩,RM⟩,RE⟩,Q2⟩,Ph⟩,Rk⟩,RF⟩,Q1⟩,Q0⟩,Q8⟩,RA⟩,Q5⟩,RC⟩,RL⟩,RK⟩
end Go.Proofs.YtbgedoajacpdbaaGreatDoor
