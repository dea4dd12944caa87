/- Lemmas. -/
import Derived.Test.YtiaddfklojalbaaGreatRows
import Derived.JoinedOf
import Derived.JoinedAt
import Derived.Handed
set_option linter.all false
set_option maxRecDepth 100000
open Bool renaming true->X
open Bool renaming and_eq_true_iff->w?
namespace Go.Proofs.YtiaddfklojalbaaGreat
open Go Go.Proofs.Tryz
theorem Ul:(Rows.translateForwardRow.wf (OpenSpec.ofChange Rows.translateForwardSpec))=X:=by kernel_rfl
theorem S6:(laidOutB prog)=X:=by kernel_rfl
theorem Ri:(mapsRowed prog)=X:=by kernel_rfl
theorem Uk:(f5.params.all (prog.readableRec ·))=X:=by kernel_rfl
theorem UT:(namedTie prog Rows.translateForwardRow.named Rows.translateForwardSpec.vars)=X:=by kernel_rfl
theorem UR:(Rows.translateForwardRow.stops==[])=X:=by kernel_rfl
theorem US:(prog.stops==[])=X:=by kernel_rfl
theorem UH:(Rows.translateForwardRow.knobs==[])=X:=by kernel_rfl
theorem UI:(prog.stopKnobs==[])=X:=by kernel_rfl
theorem UF:(Rows.translateForwardRow.inPlace==prog.inPlace 5)=X:=by kernel_rfl
theorem UU:(Rows.translateForwardRow.unfollowed==prog.unfollowed 5)=X:=by kernel_rfl
theorem UO:(Rows.translateForwardRow.recurses==prog.recurses 5)=X:=by kernel_rfl
theorem UM:(Rows.translateForwardRow.named==prog.varsNamed 5)=X:=by kernel_rfl
theorem S7:(Rows.translateForwardRow.maps==(f5.params.toList++Rows.translateForwardSpec.plain.varTypes prog).any (prog.mapsRec ·))=X:=by kernel_rfl
theorem UE:(Rows.translateForwardRow.ifaces==(f5.params.toList++Rows.translateForwardSpec.plain.varTypes prog).any (prog.ifacesRec ·))=X:=by kernel_rfl
theorem S8:(Rows.translateForwardRow.mapsOut==prog.mapsAmong f5.resultTypes.toList)=X:=by kernel_rfl
theorem UK:(Rows.translateForwardRow.loops==(f5.params.toList++Rows.translateForwardSpec.plain.varTypes prog).any (prog.loopsFrom ·))=X:=by kernel_rfl
theorem UY:(Rows.translateForwardRow.wideKeys==(f5.params.toList++Rows.translateForwardSpec.plain.varTypes prog++f5.resultTypes.toList).any (prog.wideKeysFrom ·))=X:=by kernel_rfl
theorem UX:(Rows.translateForwardSpec.vars.all (prog.varReadable ·))=X:=by kernel_rfl
theorem UP:(f5.resultTypes.all (λt=>prog.readableRec t&&decide (t<prog.types.size)))=X:=by kernel_rfl
theorem UD:(Rows.translateForwardRow.ifacesOut==f5.resultTypes.toList.any (prog.ifacesRec ·))=X:=by kernel_rfl
theorem Rh:(Rows.translateForwardRow.loopsOut==f5.resultTypes.toList.any (prog.loopsFrom ·))=X:=by kernel_rfl
theorem Uj:(Rows.translateForwardRow.plainKeys==prog.plainKeys)=X:=by kernel_rfl
theorem UQ:(Rows.translateForwardRow.shortTexts.isNone)=X:=by kernel_rfl
theorem UC:(prog.stopsHeard)=X:=by kernel_rfl
theorem UB:(prog.mayEnter)=X:=by kernel_rfl
theorem UJ:(Rows.translateForwardRow.lifted==prog.liftsFinal)=X:=by kernel_rfl
theorem UL:(prog.make==some Rows.translateForwardRow.make)=X:=by kernel_rfl
theorem UG:(Rows.translateForwardRow.kinds==(if Rows.translateForwardRow.domain.isEmpty then[]else f5.params.toList.map λt=>match prog.underlying t with|some (.int k)=>some k|_=>none))=X:=by kernel_rfl
theorem UN:(Rows.translateForwardRow.pinned==Rows.translateForwardRow.pinnedBy)=X:=by kernel_rfl
theorem UW:(Rows.translateForwardRow.veiled==(f5.params.toList++Rows.translateForwardSpec.plain.varTypes prog++f5.resultTypes.toList).any (prog.veiledRec ·))=X:=by kernel_rfl
theorem UV:(Rows.translateForwardRow.veiledFits prog f5.params.toList (f5.params.toList++Rows.translateForwardSpec.plain.varTypes prog++f5.resultTypes.toList))=X:=by kernel_rfl
theorem S4:prog.funcNamed Rows.translateForwardRow.func=some 5:=by kernel_rfl
theorem S3:joinedFacts prog 5 f5 Rows.translateForwardSpec Rows.translateForwardRow=X:=
 w?.2 ⟨w?.2 ⟨w?.2 ⟨w?.2 ⟨w?.2 ⟨w?.2 ⟨w?.2 ⟨w?.2 ⟨w?.2 ⟨w?.2 ⟨w?.2 ⟨w?.2 ⟨w?.2 ⟨w?.2 ⟨w?.2 ⟨w?.2 ⟨w?.2 ⟨w?.2 ⟨w?.2 ⟨w?.2 ⟨w?.2 ⟨w?.2 ⟨w?.2 ⟨w?.2 ⟨w?.2 ⟨w?.2 ⟨w?.2 ⟨w?.2 ⟨w?.2 ⟨w?.2 ⟨w?.2 ⟨Ul,S6⟩,Ri⟩,Uk⟩,UT⟩,UR⟩,US⟩,UH⟩,UI⟩,UF⟩,UU⟩,UO⟩,UM⟩,S7⟩,UE⟩,S8⟩,UK⟩,UY⟩,UX⟩,UP⟩,UD⟩,Rh⟩,Uj⟩,UQ⟩,UC⟩,UB⟩,UJ⟩,UL⟩,UG⟩,UN⟩,UW⟩,UV⟩
end Go.Proofs.YtiaddfklojalbaaGreat
