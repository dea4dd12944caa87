/- Lemmas. -/
import Derived.Test.YtbmgmpeimdomoaaGreatRows
import Derived.JoinedOf
import Derived.JoinedAt
import Derived.Handed
set_option linter.all false
set_option maxRecDepth 100000
open Bool renaming true->X
open Bool renaming and_eq_true_iff->w_
namespace Go.Proofs.YtbmgmpeimdomoaaGreat
open Go Go.Proofs.Tryz
theorem XF:(Rows.translateSidesRow.wf (OpenSpec.ofChange Rows.translateSidesSpec))=X:=by kernel_rfl
theorem Ui:(laidOutB prog)=X:=by kernel_rfl
theorem UJ:(mapsRowed prog)=X:=by kernel_rfl
theorem XE:(f4.params.all (prog.readableRec ·))=X:=by kernel_rfl
theorem WR:(namedTie prog Rows.translateSidesRow.named Rows.translateSidesSpec.vars)=X:=by kernel_rfl
theorem WN:(Rows.translateSidesRow.stops==[])=X:=by kernel_rfl
theorem WQ:(prog.stops==[])=X:=by kernel_rfl
theorem WC:(Rows.translateSidesRow.knobs==[])=X:=by kernel_rfl
theorem WD:(prog.stopKnobs==[])=X:=by kernel_rfl
theorem WA:(Rows.translateSidesRow.inPlace==prog.inPlace 4)=X:=by kernel_rfl
theorem WS:(Rows.translateSidesRow.unfollowed==prog.unfollowed 4)=X:=by kernel_rfl
theorem WK:(Rows.translateSidesRow.recurses==prog.recurses 4)=X:=by kernel_rfl
theorem WI:(Rows.translateSidesRow.named==prog.varsNamed 4)=X:=by kernel_rfl
theorem Uj:(Rows.translateSidesRow.maps==(f4.params.toList++Rows.translateSidesSpec.plain.varTypes prog).any (prog.mapsRec ·))=X:=by kernel_rfl
theorem V9:(Rows.translateSidesRow.ifaces==(f4.params.toList++Rows.translateSidesSpec.plain.varTypes prog).any (prog.ifacesRec ·))=X:=by kernel_rfl
theorem Uk:(Rows.translateSidesRow.mapsOut==prog.mapsAmong f4.resultTypes.toList)=X:=by kernel_rfl
theorem WG:(Rows.translateSidesRow.loops==(f4.params.toList++Rows.translateSidesSpec.plain.varTypes prog).any (prog.loopsFrom ·))=X:=by kernel_rfl
theorem WW:(Rows.translateSidesRow.wideKeys==(f4.params.toList++Rows.translateSidesSpec.plain.varTypes prog++f4.resultTypes.toList).any (prog.wideKeysFrom ·))=X:=by kernel_rfl
theorem WV:(Rows.translateSidesSpec.vars.all (prog.varReadable ·))=X:=by kernel_rfl
theorem WL:(f4.resultTypes.all (λt=>prog.readableRec t&&decide (t<prog.types.size)))=X:=by kernel_rfl
theorem V8:(Rows.translateSidesRow.ifacesOut==f4.resultTypes.toList.any (prog.ifacesRec ·))=X:=by kernel_rfl
theorem UI:(Rows.translateSidesRow.loopsOut==f4.resultTypes.toList.any (prog.loopsFrom ·))=X:=by kernel_rfl
theorem XD:(Rows.translateSidesRow.plainKeys==prog.plainKeys)=X:=by kernel_rfl
theorem WM:(Rows.translateSidesRow.shortTexts.isNone)=X:=by kernel_rfl
theorem V7:(prog.stopsHeard)=X:=by kernel_rfl
theorem V6:(prog.mayEnter)=X:=by kernel_rfl
theorem WE:(Rows.translateSidesRow.lifted==prog.liftsFinal)=X:=by kernel_rfl
theorem WH:(prog.make==some Rows.translateSidesRow.make)=X:=by kernel_rfl
theorem WB:(Rows.translateSidesRow.kinds==(if Rows.translateSidesRow.domain.isEmpty then[]else f4.params.toList.map λt=>match prog.underlying t with|some (.int k)=>some k|_=>none))=X:=by kernel_rfl
theorem WJ:(Rows.translateSidesRow.pinned==Rows.translateSidesRow.pinnedBy)=X:=by kernel_rfl
theorem WU:(Rows.translateSidesRow.veiled==(f4.params.toList++Rows.translateSidesSpec.plain.varTypes prog++f4.resultTypes.toList).any (prog.veiledRec ·))=X:=by kernel_rfl
theorem WT:(Rows.translateSidesRow.veiledFits prog f4.params.toList (f4.params.toList++Rows.translateSidesSpec.plain.varTypes prog++f4.resultTypes.toList))=X:=by kernel_rfl
theorem Ug:prog.funcNamed Rows.translateSidesRow.func=some 4:=by kernel_rfl
theorem Uf:joinedFacts prog 4 f4 Rows.translateSidesSpec Rows.translateSidesRow=X:=
 w_.2 ⟨w_.2 ⟨w_.2 ⟨w_.2 ⟨w_.2 ⟨w_.2 ⟨w_.2 ⟨w_.2 ⟨w_.2 ⟨w_.2 ⟨w_.2 ⟨w_.2 ⟨w_.2 ⟨w_.2 ⟨w_.2 ⟨w_.2 ⟨w_.2 ⟨w_.2 ⟨w_.2 ⟨w_.2 ⟨w_.2 ⟨w_.2 ⟨w_.2 ⟨w_.2 ⟨w_.2 ⟨w_.2 ⟨w_.2 ⟨w_.2 ⟨w_.2 ⟨w_.2 ⟨w_.2 ⟨XF,Ui⟩,UJ⟩,XE⟩,WR⟩,WN⟩,WQ⟩,WC⟩,WD⟩,WA⟩,WS⟩,WK⟩,WI⟩,Uj⟩,V9⟩,Uk⟩,WG⟩,WW⟩,WV⟩,WL⟩,V8⟩,UI⟩,XD⟩,WM⟩,V7⟩,V6⟩,WE⟩,WH⟩,WB⟩,WJ⟩,WU⟩,WT⟩
end Go.Proofs.YtbmgmpeimdomoaaGreat
