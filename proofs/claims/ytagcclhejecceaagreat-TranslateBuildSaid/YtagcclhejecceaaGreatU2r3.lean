/- Lemmas. -/
import Derived.Test.YtagcclhejecceaaGreatRows
import Derived.JoinedOf
import Derived.JoinedAt
import Derived.Handed
set_option linter.all false
set_option maxRecDepth 100000
namespace Go.Proofs.YtagcclhejecceaaGreat
open Go Go.Proofs.Tryz
theorem UY:(Rows.translateBuildRow.wf (OpenSpec.ofChange Rows.translateBuildSpec))=true:=by kernel_rfl
theorem R8:(laidOutB prog)=true:=by kernel_rfl
theorem Rm:(mapsRowed prog)=true:=by kernel_rfl
theorem UX:(f3.params.all (prog.readableRec ·))=true:=by kernel_rfl
theorem TS:(namedTie prog Rows.translateBuildRow.named Rows.translateBuildSpec.vars)=true:=by kernel_rfl
theorem TQ:(Rows.translateBuildRow.stops==[])=true:=by kernel_rfl
theorem TR:(prog.stops==[])=true:=by kernel_rfl
theorem TG:(Rows.translateBuildRow.knobs==[])=true:=by kernel_rfl
theorem TH:(prog.stopKnobs==[])=true:=by kernel_rfl
theorem TE:(Rows.translateBuildRow.inPlace==prog.inPlace 3)=true:=by kernel_rfl
theorem TT:(Rows.translateBuildRow.unfollowed==prog.unfollowed 3)=true:=by kernel_rfl
theorem TN:(Rows.translateBuildRow.recurses==prog.recurses 3)=true:=by kernel_rfl
theorem TL:(Rows.translateBuildRow.named==prog.varsNamed 3)=true:=by kernel_rfl
theorem R9:(Rows.translateBuildRow.maps==(f3.params.toList++Rows.translateBuildSpec.plain.varTypes prog).any (prog.mapsRec ·))=true:=by kernel_rfl
theorem TD:(Rows.translateBuildRow.ifaces==(f3.params.toList++Rows.translateBuildSpec.plain.varTypes prog).any (prog.ifacesRec ·))=true:=by kernel_rfl
theorem SA:(Rows.translateBuildRow.mapsOut==prog.mapsAmong f3.resultTypes.toList)=true:=by kernel_rfl
theorem TJ:(Rows.translateBuildRow.loops==(f3.params.toList++Rows.translateBuildSpec.plain.varTypes prog).any (prog.loopsFrom ·))=true:=by kernel_rfl
theorem TY:(Rows.translateBuildRow.wideKeys==(f3.params.toList++Rows.translateBuildSpec.plain.varTypes prog++f3.resultTypes.toList).any (prog.wideKeysFrom ·))=true:=by kernel_rfl
theorem TX:(Rows.translateBuildSpec.vars.all (prog.varReadable ·))=true:=by kernel_rfl
theorem TO:(f3.resultTypes.all (fun t=>prog.readableRec t&&decide (t<prog.types.size)))=true:=by kernel_rfl
theorem TC:(Rows.translateBuildRow.ifacesOut==f3.resultTypes.toList.any (prog.ifacesRec ·))=true:=by kernel_rfl
theorem Rl:(Rows.translateBuildRow.loopsOut==f3.resultTypes.toList.any (prog.loopsFrom ·))=true:=by kernel_rfl
theorem UW:(Rows.translateBuildRow.plainKeys==prog.plainKeys)=true:=by kernel_rfl
theorem TP:(Rows.translateBuildRow.shortTexts.isNone)=true:=by kernel_rfl
theorem TB:(prog.stopsHeard)=true:=by kernel_rfl
theorem TA:(prog.mayEnter)=true:=by kernel_rfl
theorem TI:(Rows.translateBuildRow.lifted==prog.liftsFinal)=true:=by kernel_rfl
theorem TK:(prog.make==some Rows.translateBuildRow.make)=true:=by kernel_rfl
theorem TF:(Rows.translateBuildRow.kinds==(if Rows.translateBuildRow.domain.isEmpty then[]else f3.params.toList.map fun t=>match prog.underlying t with|some (.int k)=>some k|_=>none))=true:=by kernel_rfl
theorem TM:(Rows.translateBuildRow.pinned==Rows.translateBuildRow.pinnedBy)=true:=by kernel_rfl
theorem TW:(Rows.translateBuildRow.veiled==(f3.params.toList++Rows.translateBuildSpec.plain.varTypes prog++f3.resultTypes.toList).any (prog.veiledRec ·))=true:=by kernel_rfl
theorem TU:(Rows.translateBuildRow.veiledFits prog f3.params.toList (f3.params.toList++Rows.translateBuildSpec.plain.varTypes prog++f3.resultTypes.toList))=true:=by kernel_rfl
theorem R6:prog.funcNamed Rows.translateBuildRow.func=some 3:=by kernel_rfl
theorem R5:joinedFacts prog 3 f3 Rows.translateBuildSpec Rows.translateBuildRow=true:=
 Bool.and_eq_true_iff.2 ⟨Bool.and_eq_true_iff.2 ⟨Bool.and_eq_true_iff.2 ⟨Bool.and_eq_true_iff.2 ⟨Bool.and_eq_true_iff.2 ⟨Bool.and_eq_true_iff.2 ⟨Bool.and_eq_true_iff.2 ⟨Bool.and_eq_true_iff.2 ⟨Bool.and_eq_true_iff.2 ⟨Bool.and_eq_true_iff.2 ⟨Bool.and_eq_true_iff.2 ⟨Bool.and_eq_true_iff.2 ⟨Bool.and_eq_true_iff.2 ⟨Bool.and_eq_true_iff.2 ⟨Bool.and_eq_true_iff.2 ⟨Bool.and_eq_true_iff.2 ⟨Bool.and_eq_true_iff.2 ⟨Bool.and_eq_true_iff.2 ⟨Bool.and_eq_true_iff.2 ⟨Bool.and_eq_true_iff.2 ⟨Bool.and_eq_true_iff.2 ⟨Bool.and_eq_true_iff.2 ⟨Bool.and_eq_true_iff.2 ⟨Bool.and_eq_true_iff.2 ⟨Bool.and_eq_true_iff.2 ⟨Bool.and_eq_true_iff.2 ⟨Bool.and_eq_true_iff.2 ⟨Bool.and_eq_true_iff.2 ⟨Bool.and_eq_true_iff.2 ⟨Bool.and_eq_true_iff.2 ⟨Bool.and_eq_true_iff.2 ⟨UY,R8⟩,Rm⟩,UX⟩,TS⟩,TQ⟩,TR⟩,TG⟩,TH⟩,TE⟩,TT⟩,TN⟩,TL⟩,R9⟩,TD⟩,SA⟩,TJ⟩,TY⟩,TX⟩,TO⟩,TC⟩,Rl⟩,UW⟩,TP⟩,TB⟩,TA⟩,TI⟩,TK⟩,TF⟩,TM⟩,TW⟩,TU⟩
end Go.Proofs.YtagcclhejecceaaGreat
