/- Lemmas. -/
import Derived.Test.YthcncnllajfkfaaGreatRows
import Derived.JoinedOf
import Derived.JoinedAt
import Derived.Handed
set_option linter.all false
set_option maxRecDepth 100000
open Bool renaming true->X
open Bool renaming and_eq_true_iff->v?
namespace Go.Proofs.YthcncnllajfkfaaGreat
open Go Go.Proofs.Tryz
theorem eP:(Rows.joinOrderRow.wf (OpenSpec.ofChange Rows.joinOrderSpec))=X:=by kernel_rfl
theorem ZT:(laidOutB prog)=X:=by kernel_rfl
theorem YY:(mapsRowed prog)=X:=by kernel_rfl
theorem eM:(f5.params.all (prog.readableRec ·))=X:=by kernel_rfl
theorem b9:(namedTie prog Rows.joinOrderRow.named Rows.joinOrderSpec.vars)=X:=by kernel_rfl
theorem b7:(Rows.joinOrderRow.stops==[])=X:=by kernel_rfl
theorem b8:(prog.stops==[])=X:=by kernel_rfl
theorem bj:(Rows.joinOrderRow.knobs==[])=X:=by kernel_rfl
theorem bl:(prog.stopKnobs==[])=X:=by kernel_rfl
theorem bh:(Rows.joinOrderRow.inPlace==prog.inPlace 5)=X:=by kernel_rfl
theorem cA:(Rows.joinOrderRow.unfollowed==prog.unfollowed 5)=X:=by kernel_rfl
theorem bv:(Rows.joinOrderRow.recurses==prog.recurses 5)=X:=by kernel_rfl
theorem br:(Rows.joinOrderRow.named==prog.varsNamed 5)=X:=by kernel_rfl
theorem ZU:(Rows.joinOrderRow.maps==(f5.params.toList++Rows.joinOrderSpec.plain.varTypes prog).any (prog.mapsRec ·))=X:=by kernel_rfl
theorem bg:(Rows.joinOrderRow.ifaces==(f5.params.toList++Rows.joinOrderSpec.plain.varTypes prog).any (prog.ifacesRec ·))=X:=by kernel_rfl
theorem ZV:(Rows.joinOrderRow.mapsOut==prog.mapsAmong f5.resultTypes.toList)=X:=by kernel_rfl
theorem bn:(Rows.joinOrderRow.loops==(f5.params.toList++Rows.joinOrderSpec.plain.varTypes prog).any (prog.loopsFrom ·))=X:=by kernel_rfl
theorem cH:(Rows.joinOrderRow.wideKeys==(f5.params.toList++Rows.joinOrderSpec.plain.varTypes prog++f5.resultTypes.toList).any (prog.wideKeysFrom ·))=X:=by kernel_rfl
theorem cG:(Rows.joinOrderSpec.vars.all (prog.varReadable ·))=X:=by kernel_rfl
theorem bw:(f5.resultTypes.all (λt=>prog.readableRec t&&decide (t<prog.types.size)))=X:=by kernel_rfl
theorem bf:(Rows.joinOrderRow.ifacesOut==f5.resultTypes.toList.any (prog.ifacesRec ·))=X:=by kernel_rfl
theorem YX:(Rows.joinOrderRow.loopsOut==f5.resultTypes.toList.any (prog.loopsFrom ·))=X:=by kernel_rfl
theorem eK:(Rows.joinOrderRow.plainKeys==prog.plainKeys)=X:=by kernel_rfl
theorem bz:(Rows.joinOrderRow.shortTexts.isNone)=X:=by kernel_rfl
theorem be:(prog.stopsHeard)=X:=by kernel_rfl
theorem bd:(prog.mayEnter)=X:=by kernel_rfl
theorem bm:(Rows.joinOrderRow.lifted==prog.liftsFinal)=X:=by kernel_rfl
theorem bq:(prog.make==some Rows.joinOrderRow.make)=X:=by kernel_rfl
theorem bi:(Rows.joinOrderRow.kinds==(if Rows.joinOrderRow.domain.isEmpty then[]else f5.params.toList.map λt=>match prog.underlying t with|some (.int k)=>some k|_=>none))=X:=by kernel_rfl
theorem bu:(Rows.joinOrderRow.pinned==Rows.joinOrderRow.pinnedBy)=X:=by kernel_rfl
theorem cF:(Rows.joinOrderRow.veiled==(f5.params.toList++Rows.joinOrderSpec.plain.varTypes prog++f5.resultTypes.toList).any (prog.veiledRec ·))=X:=by kernel_rfl
theorem cD:(Rows.joinOrderRow.veiledFits prog f5.params.toList (f5.params.toList++Rows.joinOrderSpec.plain.varTypes prog++f5.resultTypes.toList))=X:=by kernel_rfl
theorem ZR:prog.funcNamed Rows.joinOrderRow.func=some 5:=by kernel_rfl
theorem ZQ:joinedFacts prog 5 f5 Rows.joinOrderSpec Rows.joinOrderRow=X:=
 v?.2 ⟨v?.2 ⟨v?.2 ⟨v?.2 ⟨v?.2 ⟨v?.2 ⟨v?.2 ⟨v?.2 ⟨v?.2 ⟨v?.2 ⟨v?.2 ⟨v?.2 ⟨v?.2 ⟨v?.2 ⟨v?.2 ⟨v?.2 ⟨v?.2 ⟨v?.2 ⟨v?.2 ⟨v?.2 ⟨v?.2 ⟨v?.2 ⟨v?.2 ⟨v?.2 ⟨v?.2 ⟨v?.2 ⟨v?.2 ⟨v?.2 ⟨v?.2 ⟨v?.2 ⟨v?.2 ⟨eP,ZT⟩,YY⟩,eM⟩,b9⟩,b7⟩,b8⟩,bj⟩,bl⟩,bh⟩,cA⟩,bv⟩,br⟩,ZU⟩,bg⟩,ZV⟩,bn⟩,cH⟩,cG⟩,bw⟩,bf⟩,YX⟩,eK⟩,bz⟩,be⟩,bd⟩,bm⟩,bq⟩,bi⟩,bu⟩,cF⟩,cD⟩
end Go.Proofs.YthcncnllajfkfaaGreat
