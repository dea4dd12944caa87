/- Lemmas. -/
import Derived.Test.YthcncnllajfkfaaGreatRows
import Derived.JoinedOf
import Derived.JoinedAt
import Derived.Handed
set_option linter.all false
set_option maxRecDepth 100000
open Bool renaming true->X
open Bool renaming and_eq_true_iff->v1
namespace Go.Proofs.YthcncnllajfkfaaGreat
open Go Go.Proofs.Tryz
theorem i7:(Rows.joinFindRow.wf (OpenSpec.ofChange Rows.joinFindSpec))=X:=by kernel_rfl
theorem cL:(laidOutB prog)=X:=by kernel_rfl
theorem ZU:(mapsRowed prog)=X:=by kernel_rfl
theorem iz:(f4.params.all (prog.readableRec ·))=X:=by kernel_rfl
theorem fO:(namedTie prog Rows.joinFindRow.named Rows.joinFindSpec.vars)=X:=by kernel_rfl
theorem fM:(Rows.joinFindRow.stops==[])=X:=by kernel_rfl
theorem fN:(prog.stops==[])=X:=by kernel_rfl
theorem fC:(Rows.joinFindRow.knobs==[])=X:=by kernel_rfl
theorem fD:(prog.stopKnobs==[])=X:=by kernel_rfl
theorem fA:(Rows.joinFindRow.inPlace==prog.inPlace 4)=X:=by kernel_rfl
theorem fP:(Rows.joinFindRow.unfollowed==prog.unfollowed 4)=X:=by kernel_rfl
theorem fJ:(Rows.joinFindRow.recurses==prog.recurses 4)=X:=by kernel_rfl
theorem fH:(Rows.joinFindRow.named==prog.varsNamed 4)=X:=by kernel_rfl
theorem cM:(Rows.joinFindRow.maps==(f4.params.toList++Rows.joinFindSpec.plain.varTypes prog).any (prog.mapsRec ·))=X:=by kernel_rfl
theorem e8:(Rows.joinFindRow.ifaces==(f4.params.toList++Rows.joinFindSpec.plain.varTypes prog).any (prog.ifacesRec ·))=X:=by kernel_rfl
theorem cN:(Rows.joinFindRow.mapsOut==prog.mapsAmong f4.resultTypes.toList)=X:=by kernel_rfl
theorem fF:(Rows.joinFindRow.loops==(f4.params.toList++Rows.joinFindSpec.plain.varTypes prog).any (prog.loopsFrom ·))=X:=by kernel_rfl
theorem fT:(Rows.joinFindRow.wideKeys==(f4.params.toList++Rows.joinFindSpec.plain.varTypes prog++f4.resultTypes.toList).any (prog.wideKeysFrom ·))=X:=by kernel_rfl
theorem fS:(Rows.joinFindSpec.vars.all (prog.varReadable ·))=X:=by kernel_rfl
theorem fK:(f4.resultTypes.all (λt=>prog.readableRec t&&decide (t<prog.types.size)))=X:=by kernel_rfl
theorem ez:(Rows.joinFindRow.ifacesOut==f4.resultTypes.toList.any (prog.ifacesRec ·))=X:=by kernel_rfl
theorem ZT:(Rows.joinFindRow.loopsOut==f4.resultTypes.toList.any (prog.loopsFrom ·))=X:=by kernel_rfl
theorem iy:(Rows.joinFindRow.plainKeys==prog.plainKeys)=X:=by kernel_rfl
theorem fL:(Rows.joinFindRow.shortTexts.isNone)=X:=by kernel_rfl
theorem ew:(prog.stopsHeard)=X:=by kernel_rfl
theorem eu:(prog.mayEnter)=X:=by kernel_rfl
theorem fE:(Rows.joinFindRow.lifted==prog.liftsFinal)=X:=by kernel_rfl
theorem fG:(prog.make==some Rows.joinFindRow.make)=X:=by kernel_rfl
theorem fB:(Rows.joinFindRow.kinds==(if Rows.joinFindRow.domain.isEmpty then[]else f4.params.toList.map λt=>match prog.underlying t with|some (.int k)=>some k|_=>none))=X:=by kernel_rfl
theorem fI:(Rows.joinFindRow.pinned==Rows.joinFindRow.pinnedBy)=X:=by kernel_rfl
theorem fR:(Rows.joinFindRow.veiled==(f4.params.toList++Rows.joinFindSpec.plain.varTypes prog++f4.resultTypes.toList).any (prog.veiledRec ·))=X:=by kernel_rfl
theorem fQ:(Rows.joinFindRow.veiledFits prog f4.params.toList (f4.params.toList++Rows.joinFindSpec.plain.varTypes prog++f4.resultTypes.toList))=X:=by kernel_rfl
theorem cJ:prog.funcNamed Rows.joinFindRow.func=some 4:=by kernel_rfl
theorem cI:joinedFacts prog 4 f4 Rows.joinFindSpec Rows.joinFindRow=X:=
 v1.2 ⟨v1.2 ⟨v1.2 ⟨v1.2 ⟨v1.2 ⟨v1.2 ⟨v1.2 ⟨v1.2 ⟨v1.2 ⟨v1.2 ⟨v1.2 ⟨v1.2 ⟨v1.2 ⟨v1.2 ⟨v1.2 ⟨v1.2 ⟨v1.2 ⟨v1.2 ⟨v1.2 ⟨v1.2 ⟨v1.2 ⟨v1.2 ⟨v1.2 ⟨v1.2 ⟨v1.2 ⟨v1.2 ⟨v1.2 ⟨v1.2 ⟨v1.2 ⟨v1.2 ⟨v1.2 ⟨i7,cL⟩,ZU⟩,iz⟩,fO⟩,fM⟩,fN⟩,fC⟩,fD⟩,fA⟩,fP⟩,fJ⟩,fH⟩,cM⟩,e8⟩,cN⟩,fF⟩,fT⟩,fS⟩,fK⟩,ez⟩,ZT⟩,iy⟩,fL⟩,ew⟩,eu⟩,fE⟩,fG⟩,fB⟩,fI⟩,fR⟩,fQ⟩
end Go.Proofs.YthcncnllajfkfaaGreat
