/- Lemmas. -/
import Derived.Test.YthcncnllajfkfaaGreatRows
import Derived.JoinedOf
import Derived.JoinedAt
import Derived.Handed
set_option linter.all false
set_option maxRecDepth 100000
open Bool renaming true->X
open Bool renaming and_eq_true_iff->v5
namespace Go.Proofs.YthcncnllajfkfaaGreat
open Go Go.Proofs.Tryz
theorem iq:(Rows.joinFindRow.wf (OpenSpec.ofChange Rows.joinFindSpec))=X:=by kernel_rfl
theorem cG:(laidOutB prog)=X:=by kernel_rfl
theorem ZP:(mapsRowed prog)=X:=by kernel_rfl
theorem ip:(f4.params.all (prog.readableRec ·))=X:=by kernel_rfl
theorem fI:(namedTie prog Rows.joinFindRow.named Rows.joinFindSpec.vars)=X:=by kernel_rfl
theorem fG:(Rows.joinFindRow.stops==[])=X:=by kernel_rfl
theorem fH:(prog.stops==[])=X:=by kernel_rfl
theorem eu:(Rows.joinFindRow.knobs==[])=X:=by kernel_rfl
theorem ew:(prog.stopKnobs==[])=X:=by kernel_rfl
theorem ef:(Rows.joinFindRow.inPlace==prog.inPlace 4)=X:=by kernel_rfl
theorem fJ:(Rows.joinFindRow.unfollowed==prog.unfollowed 4)=X:=by kernel_rfl
theorem fD:(Rows.joinFindRow.recurses==prog.recurses 4)=X:=by kernel_rfl
theorem fB:(Rows.joinFindRow.named==prog.varsNamed 4)=X:=by kernel_rfl
theorem cH:(Rows.joinFindRow.maps==(f4.params.toList++Rows.joinFindSpec.plain.varTypes prog).any (prog.mapsRec ·))=X:=by kernel_rfl
theorem eZ:(Rows.joinFindRow.ifaces==(f4.params.toList++Rows.joinFindSpec.plain.varTypes prog).any (prog.ifacesRec ·))=X:=by kernel_rfl
theorem cI:(Rows.joinFindRow.mapsOut==prog.mapsAmong f4.resultTypes.toList)=X:=by kernel_rfl
theorem e8:(Rows.joinFindRow.loops==(f4.params.toList++Rows.joinFindSpec.plain.varTypes prog).any (prog.loopsFrom ·))=X:=by kernel_rfl
theorem fN:(Rows.joinFindRow.wideKeys==(f4.params.toList++Rows.joinFindSpec.plain.varTypes prog++f4.resultTypes.toList).any (prog.wideKeysFrom ·))=X:=by kernel_rfl
theorem fM:(Rows.joinFindSpec.vars.all (prog.varReadable ·))=X:=by kernel_rfl
theorem fE:(f4.resultTypes.all (λt=>prog.readableRec t&&decide (t<prog.types.size)))=X:=by kernel_rfl
theorem eY:(Rows.joinFindRow.ifacesOut==f4.resultTypes.toList.any (prog.ifacesRec ·))=X:=by kernel_rfl
theorem ZO:(Rows.joinFindRow.loopsOut==f4.resultTypes.toList.any (prog.loopsFrom ·))=X:=by kernel_rfl
theorem im:(Rows.joinFindRow.plainKeys==prog.plainKeys)=X:=by kernel_rfl
theorem fF:(Rows.joinFindRow.shortTexts.isNone)=X:=by kernel_rfl
theorem eX:(prog.stopsHeard)=X:=by kernel_rfl
theorem eW:(prog.mayEnter)=X:=by kernel_rfl
theorem ez:(Rows.joinFindRow.lifted==prog.liftsFinal)=X:=by kernel_rfl
theorem fA:(prog.make==some Rows.joinFindRow.make)=X:=by kernel_rfl
theorem eo:(Rows.joinFindRow.kinds==(if Rows.joinFindRow.domain.isEmpty then[]else f4.params.toList.map λt=>match prog.underlying t with|some (.int k)=>some k|_=>none))=X:=by kernel_rfl
theorem fC:(Rows.joinFindRow.pinned==Rows.joinFindRow.pinnedBy)=X:=by kernel_rfl
theorem fL:(Rows.joinFindRow.veiled==(f4.params.toList++Rows.joinFindSpec.plain.varTypes prog++f4.resultTypes.toList).any (prog.veiledRec ·))=X:=by kernel_rfl
theorem fK:(Rows.joinFindRow.veiledFits prog f4.params.toList (f4.params.toList++Rows.joinFindSpec.plain.varTypes prog++f4.resultTypes.toList))=X:=by kernel_rfl
theorem cD:prog.funcNamed Rows.joinFindRow.func=some 4:=by kernel_rfl
theorem cA:joinedFacts prog 4 f4 Rows.joinFindSpec Rows.joinFindRow=X:=
 v5.2 ⟨v5.2 ⟨v5.2 ⟨v5.2 ⟨v5.2 ⟨v5.2 ⟨v5.2 ⟨v5.2 ⟨v5.2 ⟨v5.2 ⟨v5.2 ⟨v5.2 ⟨v5.2 ⟨v5.2 ⟨v5.2 ⟨v5.2 ⟨v5.2 ⟨v5.2 ⟨v5.2 ⟨v5.2 ⟨v5.2 ⟨v5.2 ⟨v5.2 ⟨v5.2 ⟨v5.2 ⟨v5.2 ⟨v5.2 ⟨v5.2 ⟨v5.2 ⟨v5.2 ⟨v5.2 ⟨iq,cG⟩,ZP⟩,ip⟩,fI⟩,fG⟩,fH⟩,eu⟩,ew⟩,ef⟩,fJ⟩,fD⟩,fB⟩,cH⟩,eZ⟩,cI⟩,e8⟩,fN⟩,fM⟩,fE⟩,eY⟩,ZO⟩,im⟩,fF⟩,eX⟩,eW⟩,ez⟩,fA⟩,eo⟩,fC⟩,fL⟩,fK⟩
end Go.Proofs.YthcncnllajfkfaaGreat
