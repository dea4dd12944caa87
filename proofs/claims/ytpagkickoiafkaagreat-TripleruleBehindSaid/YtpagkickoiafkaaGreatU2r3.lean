/- Lemmas. -/
import Derived.Test.YtpagkickoiafkaaGreatRows
import Derived.JoinedOf
import Derived.JoinedAt
import Derived.Handed
set_option linter.all false
set_option maxRecDepth 100000
open Bool renaming true->X
open Bool renaming and_eq_true_iff->v?
namespace Go.Proofs.YtpagkickoiafkaaGreat
open Go Go.Proofs.Tryz
theorem Ub:(Rows.tripleruleBehindRow.wf (OpenSpec.ofChange Rows.tripleruleBehindSpec))=X:=by kernel_rfl
theorem S0:(laidOutB prog)=X:=by kernel_rfl
theorem SR:(mapsRowed prog)=X:=by kernel_rfl
theorem Ua:(f3.params.all (prog.readableRec ·))=X:=by kernel_rfl
theorem UH:(namedTie prog Rows.tripleruleBehindRow.named Rows.tripleruleBehindSpec.vars)=X:=by kernel_rfl
theorem UF:(Rows.tripleruleBehindRow.stops==[])=X:=by kernel_rfl
theorem UG:(prog.stops==[])=X:=by kernel_rfl
theorem T5:(Rows.tripleruleBehindRow.knobs==[])=X:=by kernel_rfl
theorem T6:(prog.stopKnobs==[])=X:=by kernel_rfl
theorem T3:(Rows.tripleruleBehindRow.inPlace==prog.inPlace 3)=X:=by kernel_rfl
theorem UI:(Rows.tripleruleBehindRow.unfollowed==prog.unfollowed 3)=X:=by kernel_rfl
theorem UC:(Rows.tripleruleBehindRow.recurses==prog.recurses 3)=X:=by kernel_rfl
theorem UA:(Rows.tripleruleBehindRow.named==prog.varsNamed 3)=X:=by kernel_rfl
theorem S1:(Rows.tripleruleBehindRow.maps==(f3.params.toList++Rows.tripleruleBehindSpec.plain.varTypes prog).any (prog.mapsRec ·))=X:=by kernel_rfl
theorem T1:(Rows.tripleruleBehindRow.ifaces==(f3.params.toList++Rows.tripleruleBehindSpec.plain.varTypes prog).any (prog.ifacesRec ·))=X:=by kernel_rfl
theorem S2:(Rows.tripleruleBehindRow.mapsOut==prog.mapsAmong f3.resultTypes.toList)=X:=by kernel_rfl
theorem T8:(Rows.tripleruleBehindRow.loops==(f3.params.toList++Rows.tripleruleBehindSpec.plain.varTypes prog).any (prog.loopsFrom ·))=X:=by kernel_rfl
theorem UM:(Rows.tripleruleBehindRow.wideKeys==(f3.params.toList++Rows.tripleruleBehindSpec.plain.varTypes prog++f3.resultTypes.toList).any (prog.wideKeysFrom ·))=X:=by kernel_rfl
theorem UL:(Rows.tripleruleBehindSpec.vars.all (prog.varReadable ·))=X:=by kernel_rfl
theorem UD:(f3.resultTypes.all (λt=>prog.readableRec t&&decide (t<prog.types.size)))=X:=by kernel_rfl
theorem Tz:(Rows.tripleruleBehindRow.ifacesOut==f3.resultTypes.toList.any (prog.ifacesRec ·))=X:=by kernel_rfl
theorem SQ:(Rows.tripleruleBehindRow.loopsOut==f3.resultTypes.toList.any (prog.loopsFrom ·))=X:=by kernel_rfl
theorem UZ:(Rows.tripleruleBehindRow.plainKeys==prog.plainKeys)=X:=by kernel_rfl
theorem UE:(Rows.tripleruleBehindRow.shortTexts.isNone)=X:=by kernel_rfl
theorem Ty:(prog.stopsHeard)=X:=by kernel_rfl
theorem Tx:(prog.mayEnter)=X:=by kernel_rfl
theorem T7:(Rows.tripleruleBehindRow.lifted==prog.liftsFinal)=X:=by kernel_rfl
theorem T9:(prog.make==some Rows.tripleruleBehindRow.make)=X:=by kernel_rfl
theorem T4:(Rows.tripleruleBehindRow.kinds==(if Rows.tripleruleBehindRow.domain.isEmpty then[]else f3.params.toList.map λt=>match prog.underlying t with|some (.int k)=>some k|_=>none))=X:=by kernel_rfl
theorem UB:(Rows.tripleruleBehindRow.pinned==Rows.tripleruleBehindRow.pinnedBy)=X:=by kernel_rfl
theorem UK:(Rows.tripleruleBehindRow.veiled==(f3.params.toList++Rows.tripleruleBehindSpec.plain.varTypes prog++f3.resultTypes.toList).any (prog.veiledRec ·))=X:=by kernel_rfl
theorem UJ:(Rows.tripleruleBehindRow.veiledFits prog f3.params.toList (f3.params.toList++Rows.tripleruleBehindSpec.plain.varTypes prog++f3.resultTypes.toList))=X:=by kernel_rfl
theorem Sx:prog.funcNamed Rows.tripleruleBehindRow.func=some 3:=by kernel_rfl
theorem Sw:joinedFacts prog 3 f3 Rows.tripleruleBehindSpec Rows.tripleruleBehindRow=X:=
 v?.2 ⟨v?.2 ⟨v?.2 ⟨v?.2 ⟨v?.2 ⟨v?.2 ⟨v?.2 ⟨v?.2 ⟨v?.2 ⟨v?.2 ⟨v?.2 ⟨v?.2 ⟨v?.2 ⟨v?.2 ⟨v?.2 ⟨v?.2 ⟨v?.2 ⟨v?.2 ⟨v?.2 ⟨v?.2 ⟨v?.2 ⟨v?.2 ⟨v?.2 ⟨v?.2 ⟨v?.2 ⟨v?.2 ⟨v?.2 ⟨v?.2 ⟨v?.2 ⟨v?.2 ⟨v?.2 ⟨Ub,S0⟩,SR⟩,Ua⟩,UH⟩,UF⟩,UG⟩,T5⟩,T6⟩,T3⟩,UI⟩,UC⟩,UA⟩,S1⟩,T1⟩,S2⟩,T8⟩,UM⟩,UL⟩,UD⟩,Tz⟩,SQ⟩,UZ⟩,UE⟩,Ty⟩,Tx⟩,T7⟩,T9⟩,T4⟩,UB⟩,UK⟩,UJ⟩
end Go.Proofs.YtpagkickoiafkaaGreat
