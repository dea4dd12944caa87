/- Lemmas. -/
import Derived.Test.YtlbmpkmkmkgniaaGreatDoorRows
import Derived.JoinedOf
import Derived.JoinedAt
import Derived.Handed
set_option maxRecDepth 100000
namespace Go.Proofs.YtlbmpkmkmkgniaaGreatDoor
open Go Go.Proofs.Tryz
theorem SL:(Rows.explainNoneRow.wf (OpenSpec.ofChange Rows.explainNoneSpec))=true:=by kernel_rfl
theorem QX:(laidOutB prog)=true:=by kernel_rfl
theorem P8:(mapsRowed prog)=true:=by kernel_rfl
theorem SK:(f6.params.all (prog.readableRec ·))=true:=by kernel_rfl
theorem RM:(namedTie prog Rows.explainNoneRow.named Rows.explainNoneSpec.vars)=true:=by kernel_rfl
theorem RK:(Rows.explainNoneRow.stops==[])=true:=by kernel_rfl
theorem RL:(prog.stops==[])=true:=by kernel_rfl
theorem RA:(Rows.explainNoneRow.knobs==[])=true:=by kernel_rfl
theorem RB:(prog.stopKnobs==[])=true:=by kernel_rfl
theorem Q8:(Rows.explainNoneRow.inPlace==prog.inPlace 6)=true:=by kernel_rfl
theorem RN:(Rows.explainNoneRow.unfollowed==prog.unfollowed 6)=true:=by kernel_rfl
theorem RH:(Rows.explainNoneRow.recurses==prog.recurses 6)=true:=by kernel_rfl
theorem RF:(Rows.explainNoneRow.named==prog.varsNamed 6)=true:=by kernel_rfl
theorem QZ:(Rows.explainNoneRow.maps==(f6.params.toList++Rows.explainNoneSpec.plain.varTypes prog).any (prog.mapsRec ·))=true:=by kernel_rfl
theorem Q7:(Rows.explainNoneRow.ifaces==(f6.params.toList++Rows.explainNoneSpec.plain.varTypes prog).any (prog.ifacesRec ·))=true:=by kernel_rfl
theorem Qa:(Rows.explainNoneRow.mapsOut==prog.mapsAmong f6.resultTypes.toList)=true:=by kernel_rfl
theorem RD:(Rows.explainNoneRow.loops==(f6.params.toList++Rows.explainNoneSpec.plain.varTypes prog).any (prog.loopsFrom ·))=true:=by kernel_rfl
theorem RS:(Rows.explainNoneRow.wideKeys==(f6.params.toList++Rows.explainNoneSpec.plain.varTypes prog++f6.resultTypes.toList).any (prog.wideKeysFrom ·))=true:=by kernel_rfl
theorem RQ:(Rows.explainNoneSpec.vars.all (prog.varReadable ·))=true:=by kernel_rfl
theorem RI:(f6.resultTypes.all (fun t=>prog.readableRec t&&decide (t<prog.types.size)))=true:=by kernel_rfl
theorem Q6:(Rows.explainNoneRow.ifacesOut==f6.resultTypes.toList.any (prog.ifacesRec ·))=true:=by kernel_rfl
theorem P7:(Rows.explainNoneRow.loopsOut==f6.resultTypes.toList.any (prog.loopsFrom ·))=true:=by kernel_rfl
theorem SJ:(Rows.explainNoneRow.plainKeys==prog.plainKeys)=true:=by kernel_rfl
theorem RJ:(Rows.explainNoneRow.shortTexts.isNone)=true:=by kernel_rfl
theorem Q5:(prog.stopsHeard)=true:=by kernel_rfl
theorem Q4:(prog.mayEnter)=true:=by kernel_rfl
theorem RC:(Rows.explainNoneRow.lifted==prog.liftsFinal)=true:=by kernel_rfl
theorem RE:(prog.make==some Rows.explainNoneRow.make)=true:=by kernel_rfl
theorem Q9:(Rows.explainNoneRow.kinds==(if Rows.explainNoneRow.domain.isEmpty then [] else f6.params.toList.map fun t=>match prog.underlying t with | some (.int k)=>some k | _=>none))=true:=by kernel_rfl
theorem RG:(Rows.explainNoneRow.pinned==Rows.explainNoneRow.pinnedBy)=true:=by kernel_rfl
theorem RP:(Rows.explainNoneRow.veiled==(f6.params.toList++Rows.explainNoneSpec.plain.varTypes prog++f6.resultTypes.toList).any (prog.veiledRec ·))=true:=by kernel_rfl
theorem RO:(Rows.explainNoneRow.veiledFits prog f6.params.toList (f6.params.toList++Rows.explainNoneSpec.plain.varTypes prog++f6.resultTypes.toList))=true:=by kernel_rfl
theorem NC:prog.funcNamed Rows.explainNoneRow.func=some 6:=by kernel_rfl
theorem QU:joinedFacts prog 6 f6 Rows.explainNoneSpec Rows.explainNoneRow=true:=
 Bool.and_eq_true_iff.2 ⟨Bool.and_eq_true_iff.2 ⟨Bool.and_eq_true_iff.2 ⟨Bool.and_eq_true_iff.2 ⟨Bool.and_eq_true_iff.2 ⟨Bool.and_eq_true_iff.2 ⟨Bool.and_eq_true_iff.2 ⟨Bool.and_eq_true_iff.2 ⟨Bool.and_eq_true_iff.2 ⟨Bool.and_eq_true_iff.2 ⟨Bool.and_eq_true_iff.2 ⟨Bool.and_eq_true_iff.2 ⟨Bool.and_eq_true_iff.2 ⟨Bool.and_eq_true_iff.2 ⟨Bool.and_eq_true_iff.2 ⟨Bool.and_eq_true_iff.2 ⟨Bool.and_eq_true_iff.2 ⟨Bool.and_eq_true_iff.2 ⟨Bool.and_eq_true_iff.2 ⟨Bool.and_eq_true_iff.2 ⟨Bool.and_eq_true_iff.2 ⟨Bool.and_eq_true_iff.2 ⟨Bool.and_eq_true_iff.2 ⟨Bool.and_eq_true_iff.2 ⟨Bool.and_eq_true_iff.2 ⟨Bool.and_eq_true_iff.2 ⟨Bool.and_eq_true_iff.2 ⟨Bool.and_eq_true_iff.2 ⟨Bool.and_eq_true_iff.2 ⟨Bool.and_eq_true_iff.2 ⟨Bool.and_eq_true_iff.2 ⟨SL,QX⟩,P8⟩,SK⟩,RM⟩,RK⟩,RL⟩,RA⟩,RB⟩,Q8⟩,RN⟩,RH⟩,RF⟩,QZ⟩,Q7⟩,Qa⟩,RD⟩,RS⟩,RQ⟩,RI⟩,Q6⟩,P7⟩,SJ⟩,RJ⟩,Q5⟩,Q4⟩,RC⟩,RE⟩,Q9⟩,RG⟩,RP⟩,RO⟩
end Go.Proofs.YtlbmpkmkmkgniaaGreatDoor
