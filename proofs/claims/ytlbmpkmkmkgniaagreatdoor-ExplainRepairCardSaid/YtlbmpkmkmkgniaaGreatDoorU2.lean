/- Lemmas. -/
import Derived.Test.YtlbmpkmkmkgniaaGreatDoorRows
import Derived.JoinedOf
import Derived.JoinedAt
import Derived.Handed
set_option linter.all false
set_option maxRecDepth 100000
namespace Go.Proofs.YtlbmpkmkmkgniaaGreatDoor
open Go Go.Proofs.Tryz
theorem Sd:(Rows.explainRepairRow.wf (OpenSpec.ofChange Rows.explainRepairSpec))=true:=by kernel_rfl
theorem Q4:(laidOutB prog)=true:=by kernel_rfl
theorem Qj:(mapsRowed prog)=true:=by kernel_rfl
theorem Sb:(f5.params.all (prog.readableRec ·))=true:=by kernel_rfl
theorem R8:(namedTie prog Rows.explainRepairRow.named Rows.explainRepairSpec.vars)=true:=by kernel_rfl
theorem R6:(Rows.explainRepairRow.stops==[])=true:=by kernel_rfl
theorem R7:(prog.stops==[])=true:=by kernel_rfl
theorem Rw:(Rows.explainRepairRow.knobs==[])=true:=by kernel_rfl
theorem Rx:(prog.stopKnobs==[])=true:=by kernel_rfl
theorem Ru:(Rows.explainRepairRow.inPlace==prog.inPlace 5)=true:=by kernel_rfl
theorem R9:(Rows.explainRepairRow.unfollowed==prog.unfollowed 5)=true:=by kernel_rfl
theorem R3:(Rows.explainRepairRow.recurses==prog.recurses 5)=true:=by kernel_rfl
theorem R1:(Rows.explainRepairRow.named==prog.varsNamed 5)=true:=by kernel_rfl
theorem Q6:(Rows.explainRepairRow.maps==(f5.params.toList++Rows.explainRepairSpec.plain.varTypes prog).any (prog.mapsRec ·))=true:=by kernel_rfl
theorem Rt:(Rows.explainRepairRow.ifaces==(f5.params.toList++Rows.explainRepairSpec.plain.varTypes prog).any (prog.ifacesRec ·))=true:=by kernel_rfl
theorem Q7:(Rows.explainRepairRow.mapsOut==prog.mapsAmong f5.resultTypes.toList)=true:=by kernel_rfl
theorem Rz:(Rows.explainRepairRow.loops==(f5.params.toList++Rows.explainRepairSpec.plain.varTypes prog).any (prog.loopsFrom ·))=true:=by kernel_rfl
theorem SE:(Rows.explainRepairRow.wideKeys==(f5.params.toList++Rows.explainRepairSpec.plain.varTypes prog++f5.resultTypes.toList).any (prog.wideKeysFrom ·))=true:=by kernel_rfl
theorem SC:(Rows.explainRepairSpec.vars.all (prog.varReadable ·))=true:=by kernel_rfl
theorem R4:(f5.resultTypes.all (fun t=>prog.readableRec t&&decide (t<prog.types.size)))=true:=by kernel_rfl
theorem Rs:(Rows.explainRepairRow.ifacesOut==f5.resultTypes.toList.any (prog.ifacesRec ·))=true:=by kernel_rfl
theorem Qi:(Rows.explainRepairRow.loopsOut==f5.resultTypes.toList.any (prog.loopsFrom ·))=true:=by kernel_rfl
theorem Sa:(Rows.explainRepairRow.plainKeys==prog.plainKeys)=true:=by kernel_rfl
theorem R5:(Rows.explainRepairRow.shortTexts.isNone)=true:=by kernel_rfl
theorem Rr:(prog.stopsHeard)=true:=by kernel_rfl
theorem Rp:(prog.mayEnter)=true:=by kernel_rfl
theorem Ry:(Rows.explainRepairRow.lifted==prog.liftsFinal)=true:=by kernel_rfl
theorem R0:(prog.make==some Rows.explainRepairRow.make)=true:=by kernel_rfl
theorem Rv:(Rows.explainRepairRow.kinds==(if Rows.explainRepairRow.domain.isEmpty then [] else f5.params.toList.map fun t=>match prog.underlying t with | some (.int k)=>some k | _=>none))=true:=by kernel_rfl
theorem R2:(Rows.explainRepairRow.pinned==Rows.explainRepairRow.pinnedBy)=true:=by kernel_rfl
theorem SB:(Rows.explainRepairRow.veiled==(f5.params.toList++Rows.explainRepairSpec.plain.varTypes prog++f5.resultTypes.toList).any (prog.veiledRec ·))=true:=by kernel_rfl
theorem SA:(Rows.explainRepairRow.veiledFits prog f5.params.toList (f5.params.toList++Rows.explainRepairSpec.plain.varTypes prog++f5.resultTypes.toList))=true:=by kernel_rfl
theorem Nj:prog.funcNamed Rows.explainRepairRow.func=some 5:=by kernel_rfl
theorem Q1:joinedFacts prog 5 f5 Rows.explainRepairSpec Rows.explainRepairRow=true:=
 Bool.and_eq_true_iff.2 ⟨Bool.and_eq_true_iff.2 ⟨Bool.and_eq_true_iff.2 ⟨Bool.and_eq_true_iff.2 ⟨Bool.and_eq_true_iff.2 ⟨Bool.and_eq_true_iff.2 ⟨Bool.and_eq_true_iff.2 ⟨Bool.and_eq_true_iff.2 ⟨Bool.and_eq_true_iff.2 ⟨Bool.and_eq_true_iff.2 ⟨Bool.and_eq_true_iff.2 ⟨Bool.and_eq_true_iff.2 ⟨Bool.and_eq_true_iff.2 ⟨Bool.and_eq_true_iff.2 ⟨Bool.and_eq_true_iff.2 ⟨Bool.and_eq_true_iff.2 ⟨Bool.and_eq_true_iff.2 ⟨Bool.and_eq_true_iff.2 ⟨Bool.and_eq_true_iff.2 ⟨Bool.and_eq_true_iff.2 ⟨Bool.and_eq_true_iff.2 ⟨Bool.and_eq_true_iff.2 ⟨Bool.and_eq_true_iff.2 ⟨Bool.and_eq_true_iff.2 ⟨Bool.and_eq_true_iff.2 ⟨Bool.and_eq_true_iff.2 ⟨Bool.and_eq_true_iff.2 ⟨Bool.and_eq_true_iff.2 ⟨Bool.and_eq_true_iff.2 ⟨Bool.and_eq_true_iff.2 ⟨Bool.and_eq_true_iff.2 ⟨Sd,Q4⟩,Qj⟩,Sb⟩,R8⟩,R6⟩,R7⟩,Rw⟩,Rx⟩,Ru⟩,R9⟩,R3⟩,R1⟩,Q6⟩,Rt⟩,Q7⟩,Rz⟩,SE⟩,SC⟩,R4⟩,Rs⟩,Qi⟩,Sa⟩,R5⟩,Rr⟩,Rp⟩,Ry⟩,R0⟩,Rv⟩,R2⟩,SB⟩,SA⟩
end Go.Proofs.YtlbmpkmkmkgniaaGreatDoor
