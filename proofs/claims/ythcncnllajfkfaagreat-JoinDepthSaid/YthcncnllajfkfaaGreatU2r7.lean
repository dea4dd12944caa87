/- Lemmas. -/
import Derived.Test.YthcncnllajfkfaaGreatRows
import Derived.JoinedOf
import Derived.JoinedAt
import Derived.Handed
set_option linter.all false
set_option maxRecDepth 100000
open Bool renaming true->X
open Bool renaming and_eq_true_iff->w_
namespace Go.Proofs.YthcncnllajfkfaaGreat
open Go Go.Proofs.Tryz
theorem eD:(Rows.joinDepthRow.wf (OpenSpec.ofChange Rows.joinDepthSpec))=X:=by kernel_rfl
theorem ZM:(laidOutB prog)=X:=by kernel_rfl
theorem YN:(mapsRowed prog)=X:=by kernel_rfl
theorem eC:(f7.params.all (prog.readableRec ·))=X:=by kernel_rfl
theorem bv:(namedTie prog Rows.joinDepthRow.named Rows.joinDepthSpec.vars)=X:=by kernel_rfl
theorem br:(Rows.joinDepthRow.stops==[])=X:=by kernel_rfl
theorem bu:(prog.stops==[])=X:=by kernel_rfl
theorem be:(Rows.joinDepthRow.knobs==[])=X:=by kernel_rfl
theorem bf:(prog.stopKnobs==[])=X:=by kernel_rfl
theorem bc:(Rows.joinDepthRow.inPlace==prog.inPlace 7)=X:=by kernel_rfl
theorem bw:(Rows.joinDepthRow.unfollowed==prog.unfollowed 7)=X:=by kernel_rfl
theorem bm:(Rows.joinDepthRow.recurses==prog.recurses 7)=X:=by kernel_rfl
theorem bj:(Rows.joinDepthRow.named==prog.varsNamed 7)=X:=by kernel_rfl
theorem ZN:(Rows.joinDepthRow.maps==(f7.params.toList++Rows.joinDepthSpec.plain.varTypes prog).any (prog.mapsRec ·))=X:=by kernel_rfl
theorem ba:(Rows.joinDepthRow.ifaces==(f7.params.toList++Rows.joinDepthSpec.plain.varTypes prog).any (prog.ifacesRec ·))=X:=by kernel_rfl
theorem ZO:(Rows.joinDepthRow.mapsOut==prog.mapsAmong f7.resultTypes.toList)=X:=by kernel_rfl
theorem bh:(Rows.joinDepthRow.loops==(f7.params.toList++Rows.joinDepthSpec.plain.varTypes prog).any (prog.loopsFrom ·))=X:=by kernel_rfl
theorem b9:(Rows.joinDepthRow.wideKeys==(f7.params.toList++Rows.joinDepthSpec.plain.varTypes prog++f7.resultTypes.toList).any (prog.wideKeysFrom ·))=X:=by kernel_rfl
theorem b8:(Rows.joinDepthSpec.vars.all (prog.varReadable ·))=X:=by kernel_rfl
theorem bn:(f7.resultTypes.all (λt=>prog.readableRec t&&decide (t<prog.types.size)))=X:=by kernel_rfl
theorem bZ:(Rows.joinDepthRow.ifacesOut==f7.resultTypes.toList.any (prog.ifacesRec ·))=X:=by kernel_rfl
theorem YM:(Rows.joinDepthRow.loopsOut==f7.resultTypes.toList.any (prog.loopsFrom ·))=X:=by kernel_rfl
theorem eA:(Rows.joinDepthRow.plainKeys==prog.plainKeys)=X:=by kernel_rfl
theorem bq:(Rows.joinDepthRow.shortTexts.isNone)=X:=by kernel_rfl
theorem bY:(prog.stopsHeard)=X:=by kernel_rfl
theorem bX:(prog.mayEnter)=X:=by kernel_rfl
theorem bg:(Rows.joinDepthRow.lifted==prog.liftsFinal)=X:=by kernel_rfl
theorem bi:(prog.make==some Rows.joinDepthRow.make)=X:=by kernel_rfl
theorem bd:(Rows.joinDepthRow.kinds==(if Rows.joinDepthRow.domain.isEmpty then[]else f7.params.toList.map λt=>match prog.underlying t with|some (.int k)=>some k|_=>none))=X:=by kernel_rfl
theorem bl:(Rows.joinDepthRow.pinned==Rows.joinDepthRow.pinnedBy)=X:=by kernel_rfl
theorem b7:(Rows.joinDepthRow.veiled==(f7.params.toList++Rows.joinDepthSpec.plain.varTypes prog++f7.resultTypes.toList).any (prog.veiledRec ·))=X:=by kernel_rfl
theorem bz:(Rows.joinDepthRow.veiledFits prog f7.params.toList (f7.params.toList++Rows.joinDepthSpec.plain.varTypes prog++f7.resultTypes.toList))=X:=by kernel_rfl
theorem ZK:prog.funcNamed Rows.joinDepthRow.func=some 7:=by kernel_rfl
theorem ZJ:joinedFacts prog 7 f7 Rows.joinDepthSpec Rows.joinDepthRow=X:=
 w_.2 ⟨w_.2 ⟨w_.2 ⟨w_.2 ⟨w_.2 ⟨w_.2 ⟨w_.2 ⟨w_.2 ⟨w_.2 ⟨w_.2 ⟨w_.2 ⟨w_.2 ⟨w_.2 ⟨w_.2 ⟨w_.2 ⟨w_.2 ⟨w_.2 ⟨w_.2 ⟨w_.2 ⟨w_.2 ⟨w_.2 ⟨w_.2 ⟨w_.2 ⟨w_.2 ⟨w_.2 ⟨w_.2 ⟨w_.2 ⟨w_.2 ⟨w_.2 ⟨w_.2 ⟨w_.2 ⟨eD,ZM⟩,YN⟩,eC⟩,bv⟩,br⟩,bu⟩,be⟩,bf⟩,bc⟩,bw⟩,bm⟩,bj⟩,ZN⟩,ba⟩,ZO⟩,bh⟩,b9⟩,b8⟩,bn⟩,bZ⟩,YM⟩,eA⟩,bq⟩,bY⟩,bX⟩,bg⟩,bi⟩,bd⟩,bl⟩,b7⟩,bz⟩
end Go.Proofs.YthcncnllajfkfaaGreat
