/- Lemmas. -/
import Derived.Test.YthcncnllajfkfaaGreatRows
import Derived.JoinedOf
import Derived.JoinedAt
import Derived.Handed
set_option linter.all false
set_option maxRecDepth 100000
open Bool renaming true->X
open Bool renaming and_eq_true_iff->w_
namespace Go.Proofs.YthcncnllajfkfaaGreat
open Go Go.Proofs.Tryz
theorem eU:(Rows.joinDepthRow.wf (OpenSpec.ofChange Rows.joinDepthSpec))=X:=by kernel_rfl
theorem ZY:(laidOutB prog)=X:=by kernel_rfl
theorem YZ:(mapsRowed prog)=X:=by kernel_rfl
theorem eT:(f7.params.all (prog.readableRec ·))=X:=by kernel_rfl
theorem cJ:(namedTie prog Rows.joinDepthRow.named Rows.joinDepthSpec.vars)=X:=by kernel_rfl
theorem cH:(Rows.joinDepthRow.stops==[])=X:=by kernel_rfl
theorem cI:(prog.stops==[])=X:=by kernel_rfl
theorem bv:(Rows.joinDepthRow.knobs==[])=X:=by kernel_rfl
theorem bw:(prog.stopKnobs==[])=X:=by kernel_rfl
theorem br:(Rows.joinDepthRow.inPlace==prog.inPlace 7)=X:=by kernel_rfl
theorem cK:(Rows.joinDepthRow.unfollowed==prog.unfollowed 7)=X:=by kernel_rfl
theorem cD:(Rows.joinDepthRow.recurses==prog.recurses 7)=X:=by kernel_rfl
theorem b9:(Rows.joinDepthRow.named==prog.varsNamed 7)=X:=by kernel_rfl
theorem ZZ:(Rows.joinDepthRow.maps==(f7.params.toList++Rows.joinDepthSpec.plain.varTypes prog).any (prog.mapsRec ·))=X:=by kernel_rfl
theorem bq:(Rows.joinDepthRow.ifaces==(f7.params.toList++Rows.joinDepthSpec.plain.varTypes prog).any (prog.ifacesRec ·))=X:=by kernel_rfl
theorem Za:(Rows.joinDepthRow.mapsOut==prog.mapsAmong f7.resultTypes.toList)=X:=by kernel_rfl
theorem b7:(Rows.joinDepthRow.loops==(f7.params.toList++Rows.joinDepthSpec.plain.varTypes prog).any (prog.loopsFrom ·))=X:=by kernel_rfl
theorem cO:(Rows.joinDepthRow.wideKeys==(f7.params.toList++Rows.joinDepthSpec.plain.varTypes prog++f7.resultTypes.toList).any (prog.wideKeysFrom ·))=X:=by kernel_rfl
theorem cN:(Rows.joinDepthSpec.vars.all (prog.varReadable ·))=X:=by kernel_rfl
theorem cF:(f7.resultTypes.all (λt=>prog.readableRec t&&decide (t<prog.types.size)))=X:=by kernel_rfl
theorem bn:(Rows.joinDepthRow.ifacesOut==f7.resultTypes.toList.any (prog.ifacesRec ·))=X:=by kernel_rfl
theorem YY:(Rows.joinDepthRow.loopsOut==f7.resultTypes.toList.any (prog.loopsFrom ·))=X:=by kernel_rfl
theorem eR:(Rows.joinDepthRow.plainKeys==prog.plainKeys)=X:=by kernel_rfl
theorem cG:(Rows.joinDepthRow.shortTexts.isNone)=X:=by kernel_rfl
theorem bm:(prog.stopsHeard)=X:=by kernel_rfl
theorem bl:(prog.mayEnter)=X:=by kernel_rfl
theorem bz:(Rows.joinDepthRow.lifted==prog.liftsFinal)=X:=by kernel_rfl
theorem b8:(prog.make==some Rows.joinDepthRow.make)=X:=by kernel_rfl
theorem bu:(Rows.joinDepthRow.kinds==(if Rows.joinDepthRow.domain.isEmpty then[]else f7.params.toList.map λt=>match prog.underlying t with|some (.int k)=>some k|_=>none))=X:=by kernel_rfl
theorem cA:(Rows.joinDepthRow.pinned==Rows.joinDepthRow.pinnedBy)=X:=by kernel_rfl
theorem cM:(Rows.joinDepthRow.veiled==(f7.params.toList++Rows.joinDepthSpec.plain.varTypes prog++f7.resultTypes.toList).any (prog.veiledRec ·))=X:=by kernel_rfl
theorem cL:(Rows.joinDepthRow.veiledFits prog f7.params.toList (f7.params.toList++Rows.joinDepthSpec.plain.varTypes prog++f7.resultTypes.toList))=X:=by kernel_rfl
theorem ZW:prog.funcNamed Rows.joinDepthRow.func=some 7:=by kernel_rfl
theorem ZV:joinedFacts prog 7 f7 Rows.joinDepthSpec Rows.joinDepthRow=X:=
 w_.2 ⟨w_.2 ⟨w_.2 ⟨w_.2 ⟨w_.2 ⟨w_.2 ⟨w_.2 ⟨w_.2 ⟨w_.2 ⟨w_.2 ⟨w_.2 ⟨w_.2 ⟨w_.2 ⟨w_.2 ⟨w_.2 ⟨w_.2 ⟨w_.2 ⟨w_.2 ⟨w_.2 ⟨w_.2 ⟨w_.2 ⟨w_.2 ⟨w_.2 ⟨w_.2 ⟨w_.2 ⟨w_.2 ⟨w_.2 ⟨w_.2 ⟨w_.2 ⟨w_.2 ⟨w_.2 ⟨eU,ZY⟩,YZ⟩,eT⟩,cJ⟩,cH⟩,cI⟩,bv⟩,bw⟩,br⟩,cK⟩,cD⟩,b9⟩,ZZ⟩,bq⟩,Za⟩,b7⟩,cO⟩,cN⟩,cF⟩,bn⟩,YY⟩,eR⟩,cG⟩,bm⟩,bl⟩,bz⟩,b8⟩,bu⟩,cA⟩,cM⟩,cL⟩
end Go.Proofs.YthcncnllajfkfaaGreat
