/- Lemmas. -/
import Derived.Test.YtiefejhapgafkaaGreatRows
import Derived.JoinedOf
import Derived.JoinedAt
import Derived.Handed
set_option linter.all false
set_option maxRecDepth 100000
open Bool renaming true->X
open Bool renaming and_eq_true_iff->x!
namespace Go.Proofs.YtiefejhapgafkaaGreat
open Go Go.Proofs.Tryz
theorem ew:(Rows.joinMovedRow.wf (OpenSpec.ofChange Rows.joinMovedSpec))=X:=by kernel_rfl
theorem Zh:(laidOutB prog)=X:=by kernel_rfl
theorem Yj:(mapsRowed prog)=X:=by kernel_rfl
theorem eu:(f3.params.all (prog.readableRec ·))=X:=by kernel_rfl
theorem cU:(namedTie prog Rows.joinMovedRow.named Rows.joinMovedSpec.vars)=X:=by kernel_rfl
theorem cR:(Rows.joinMovedRow.stops==[])=X:=by kernel_rfl
theorem cT:(prog.stops==[])=X:=by kernel_rfl
theorem cH:(Rows.joinMovedRow.knobs==[])=X:=by kernel_rfl
theorem cI:(prog.stopKnobs==[])=X:=by kernel_rfl
theorem cF:(Rows.joinMovedRow.inPlace==prog.inPlace 3)=X:=by kernel_rfl
theorem cW:(Rows.joinMovedRow.unfollowed==prog.unfollowed 3)=X:=by kernel_rfl
theorem cO:(Rows.joinMovedRow.recurses==prog.recurses 3)=X:=by kernel_rfl
theorem cM:(Rows.joinMovedRow.named==prog.varsNamed 3)=X:=by kernel_rfl
theorem Zi:(Rows.joinMovedRow.maps==(f3.params.toList++Rows.joinMovedSpec.plain.varTypes prog).any (prog.mapsRec ·))=X:=by kernel_rfl
theorem cD:(Rows.joinMovedRow.ifaces==(f3.params.toList++Rows.joinMovedSpec.plain.varTypes prog).any (prog.ifacesRec ·))=X:=by kernel_rfl
theorem Zj:(Rows.joinMovedRow.mapsOut==prog.mapsAmong f3.resultTypes.toList)=X:=by kernel_rfl
theorem cK:(Rows.joinMovedRow.loops==(f3.params.toList++Rows.joinMovedSpec.plain.varTypes prog).any (prog.loopsFrom ·))=X:=by kernel_rfl
theorem cc:(Rows.joinMovedRow.wideKeys==(f3.params.toList++Rows.joinMovedSpec.plain.varTypes prog++f3.resultTypes.toList).any (prog.wideKeysFrom ·))=X:=by kernel_rfl
theorem cZ:(Rows.joinMovedSpec.vars.all (prog.varReadable ·))=X:=by kernel_rfl
theorem cP:(f3.resultTypes.all (λt=>prog.readableRec t&&decide (t<prog.types.size)))=X:=by kernel_rfl
theorem cA:(Rows.joinMovedRow.ifacesOut==f3.resultTypes.toList.any (prog.ifacesRec ·))=X:=by kernel_rfl
theorem Yi:(Rows.joinMovedRow.loopsOut==f3.resultTypes.toList.any (prog.loopsFrom ·))=X:=by kernel_rfl
theorem eo:(Rows.joinMovedRow.plainKeys==prog.plainKeys)=X:=by kernel_rfl
theorem cQ:(Rows.joinMovedRow.shortTexts.isNone)=X:=by kernel_rfl
theorem b9:(prog.stopsHeard)=X:=by kernel_rfl
theorem b8:(prog.mayEnter)=X:=by kernel_rfl
theorem cJ:(Rows.joinMovedRow.lifted==prog.liftsFinal)=X:=by kernel_rfl
theorem cL:(prog.make==some Rows.joinMovedRow.make)=X:=by kernel_rfl
theorem cG:(Rows.joinMovedRow.kinds==(if Rows.joinMovedRow.domain.isEmpty then[]else f3.params.toList.map λt=>match prog.underlying t with|some (.int k)=>some k|_=>none))=X:=by kernel_rfl
theorem cN:(Rows.joinMovedRow.pinned==Rows.joinMovedRow.pinnedBy)=X:=by kernel_rfl
theorem cY:(Rows.joinMovedRow.veiled==(f3.params.toList++Rows.joinMovedSpec.plain.varTypes prog++f3.resultTypes.toList).any (prog.veiledRec ·))=X:=by kernel_rfl
theorem cX:(Rows.joinMovedRow.veiledFits prog f3.params.toList (f3.params.toList++Rows.joinMovedSpec.plain.varTypes prog++f3.resultTypes.toList))=X:=by kernel_rfl
theorem Zf:prog.funcNamed Rows.joinMovedRow.func=some 3:=by kernel_rfl
theorem Ze:joinedFacts prog 3 f3 Rows.joinMovedSpec Rows.joinMovedRow=X:=
 x!.2 ⟨x!.2 ⟨x!.2 ⟨x!.2 ⟨x!.2 ⟨x!.2 ⟨x!.2 ⟨x!.2 ⟨x!.2 ⟨x!.2 ⟨x!.2 ⟨x!.2 ⟨x!.2 ⟨x!.2 ⟨x!.2 ⟨x!.2 ⟨x!.2 ⟨x!.2 ⟨x!.2 ⟨x!.2 ⟨x!.2 ⟨x!.2 ⟨x!.2 ⟨x!.2 ⟨x!.2 ⟨x!.2 ⟨x!.2 ⟨x!.2 ⟨x!.2 ⟨x!.2 ⟨x!.2 ⟨ew,Zh⟩,Yj⟩,eu⟩,cU⟩,cR⟩,cT⟩,cH⟩,cI⟩,cF⟩,cW⟩,cO⟩,cM⟩,Zi⟩,cD⟩,Zj⟩,cK⟩,cc⟩,cZ⟩,cP⟩,cA⟩,Yi⟩,eo⟩,cQ⟩,b9⟩,b8⟩,cJ⟩,cL⟩,cG⟩,cN⟩,cY⟩,cX⟩
end Go.Proofs.YtiefejhapgafkaaGreat
