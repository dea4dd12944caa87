/- Lemmas. -/
import Derived.Test.YtdnblcjdhbadaaaGreatRows
import Derived.JoinedOf
import Derived.JoinedAt
import Derived.Handed
set_option linter.all false
set_option maxRecDepth 100000
namespace Go.Proofs.YtdnblcjdhbadaaaGreat
open Go Go.Proofs.Tryz
theorem Tc:(Rows.tripleruleSplitRow.wf (OpenSpec.ofChange Rows.tripleruleSplitSpec))=true:=by kernel_rfl
theorem Rw:(laidOutB prog)=true:=by kernel_rfl
theorem Qw:(mapsRowed prog)=true:=by kernel_rfl
theorem Tb:(f3.params.all (prog.readableRec ·))=true:=by kernel_rfl
theorem SU:(namedTie prog Rows.tripleruleSplitRow.named Rows.tripleruleSplitSpec.vars)=true:=by kernel_rfl
theorem SS:(Rows.tripleruleSplitRow.stops==[])=true:=by kernel_rfl
theorem ST:(prog.stops==[])=true:=by kernel_rfl
theorem SI:(Rows.tripleruleSplitRow.knobs==[])=true:=by kernel_rfl
theorem SJ:(prog.stopKnobs==[])=true:=by kernel_rfl
theorem SG:(Rows.tripleruleSplitRow.inPlace==prog.inPlace 3)=true:=by kernel_rfl
theorem SV:(Rows.tripleruleSplitRow.unfollowed==prog.unfollowed 3)=true:=by kernel_rfl
theorem SP:(Rows.tripleruleSplitRow.recurses==prog.recurses 3)=true:=by kernel_rfl
theorem SN:(Rows.tripleruleSplitRow.named==prog.varsNamed 3)=true:=by kernel_rfl
theorem Rx:(Rows.tripleruleSplitRow.maps==(f3.params.toList++Rows.tripleruleSplitSpec.plain.varTypes prog).any (prog.mapsRec ·))=true:=by kernel_rfl
theorem SF:(Rows.tripleruleSplitRow.ifaces==(f3.params.toList++Rows.tripleruleSplitSpec.plain.varTypes prog).any (prog.ifacesRec ·))=true:=by kernel_rfl
theorem Ry:(Rows.tripleruleSplitRow.mapsOut==prog.mapsAmong f3.resultTypes.toList)=true:=by kernel_rfl
theorem SL:(Rows.tripleruleSplitRow.loops==(f3.params.toList++Rows.tripleruleSplitSpec.plain.varTypes prog).any (prog.loopsFrom ·))=true:=by kernel_rfl
theorem SZ:(Rows.tripleruleSplitRow.wideKeys==(f3.params.toList++Rows.tripleruleSplitSpec.plain.varTypes prog++f3.resultTypes.toList).any (prog.wideKeysFrom ·))=true:=by kernel_rfl
theorem SY:(Rows.tripleruleSplitSpec.vars.all (prog.varReadable ·))=true:=by kernel_rfl
theorem SQ:(f3.resultTypes.all (fun t=>prog.readableRec t&&decide (t<prog.types.size)))=true:=by kernel_rfl
theorem SE:(Rows.tripleruleSplitRow.ifacesOut==f3.resultTypes.toList.any (prog.ifacesRec ·))=true:=by kernel_rfl
theorem Qv:(Rows.tripleruleSplitRow.loopsOut==f3.resultTypes.toList.any (prog.loopsFrom ·))=true:=by kernel_rfl
theorem Ta:(Rows.tripleruleSplitRow.plainKeys==prog.plainKeys)=true:=by kernel_rfl
theorem SR:(Rows.tripleruleSplitRow.shortTexts.isNone)=true:=by kernel_rfl
theorem SD:(prog.stopsHeard)=true:=by kernel_rfl
theorem SC:(prog.mayEnter)=true:=by kernel_rfl
theorem SK:(Rows.tripleruleSplitRow.lifted==prog.liftsFinal)=true:=by kernel_rfl
theorem SM:(prog.make==some Rows.tripleruleSplitRow.make)=true:=by kernel_rfl
theorem SH:(Rows.tripleruleSplitRow.kinds==(if Rows.tripleruleSplitRow.domain.isEmpty then[]else f3.params.toList.map fun t=>match prog.underlying t with|some (.int k)=>some k|_=>none))=true:=by kernel_rfl
theorem SO:(Rows.tripleruleSplitRow.pinned==Rows.tripleruleSplitRow.pinnedBy)=true:=by kernel_rfl
theorem SX:(Rows.tripleruleSplitRow.veiled==(f3.params.toList++Rows.tripleruleSplitSpec.plain.varTypes prog++f3.resultTypes.toList).any (prog.veiledRec ·))=true:=by kernel_rfl
theorem SW:(Rows.tripleruleSplitRow.veiledFits prog f3.params.toList (f3.params.toList++Rows.tripleruleSplitSpec.plain.varTypes prog++f3.resultTypes.toList))=true:=by kernel_rfl
theorem Ru:prog.funcNamed Rows.tripleruleSplitRow.func=some 3:=by kernel_rfl
theorem Rt:joinedFacts prog 3 f3 Rows.tripleruleSplitSpec Rows.tripleruleSplitRow=true:=
 Bool.and_eq_true_iff.2 ⟨Bool.and_eq_true_iff.2 ⟨Bool.and_eq_true_iff.2 ⟨Bool.and_eq_true_iff.2 ⟨Bool.and_eq_true_iff.2 ⟨Bool.and_eq_true_iff.2 ⟨Bool.and_eq_true_iff.2 ⟨Bool.and_eq_true_iff.2 ⟨Bool.and_eq_true_iff.2 ⟨Bool.and_eq_true_iff.2 ⟨Bool.and_eq_true_iff.2 ⟨Bool.and_eq_true_iff.2 ⟨Bool.and_eq_true_iff.2 ⟨Bool.and_eq_true_iff.2 ⟨Bool.and_eq_true_iff.2 ⟨Bool.and_eq_true_iff.2 ⟨Bool.and_eq_true_iff.2 ⟨Bool.and_eq_true_iff.2 ⟨Bool.and_eq_true_iff.2 ⟨Bool.and_eq_true_iff.2 ⟨Bool.and_eq_true_iff.2 ⟨Bool.and_eq_true_iff.2 ⟨Bool.and_eq_true_iff.2 ⟨Bool.and_eq_true_iff.2 ⟨Bool.and_eq_true_iff.2 ⟨Bool.and_eq_true_iff.2 ⟨Bool.and_eq_true_iff.2 ⟨Bool.and_eq_true_iff.2 ⟨Bool.and_eq_true_iff.2 ⟨Bool.and_eq_true_iff.2 ⟨Bool.and_eq_true_iff.2 ⟨Tc,Rw⟩,Qw⟩,Tb⟩,SU⟩,SS⟩,ST⟩,SI⟩,SJ⟩,SG⟩,SV⟩,SP⟩,SN⟩,Rx⟩,SF⟩,Ry⟩,SL⟩,SZ⟩,SY⟩,SQ⟩,SE⟩,Qv⟩,Ta⟩,SR⟩,SD⟩,SC⟩,SK⟩,SM⟩,SH⟩,SO⟩,SX⟩,SW⟩
end Go.Proofs.YtdnblcjdhbadaaaGreat
