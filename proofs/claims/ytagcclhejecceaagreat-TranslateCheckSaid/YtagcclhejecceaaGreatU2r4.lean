/- Lemmas. -/
import Derived.Test.YtagcclhejecceaaGreatRows
import Derived.JoinedOf
import Derived.JoinedAt
import Derived.Handed
set_option linter.all false
set_option maxRecDepth 100000
namespace Go.Proofs.YtagcclhejecceaaGreat
open Go Go.Proofs.Tryz
theorem Ub:(Rows.translateCheckRow.wf (OpenSpec.ofChange Rows.translateCheckSpec))=true:=by kernel_rfl
theorem SE:(laidOutB prog)=true:=by kernel_rfl
theorem Rr:(mapsRowed prog)=true:=by kernel_rfl
theorem Ua:(f4.params.all (prog.readableRec ·))=true:=by kernel_rfl
theorem Tu:(namedTie prog Rows.translateCheckRow.named Rows.translateCheckSpec.vars)=true:=by kernel_rfl
theorem Ts:(Rows.translateCheckRow.stops==[])=true:=by kernel_rfl
theorem Tt:(prog.stops==[])=true:=by kernel_rfl
theorem Tg:(Rows.translateCheckRow.knobs==[])=true:=by kernel_rfl
theorem Th:(prog.stopKnobs==[])=true:=by kernel_rfl
theorem Te:(Rows.translateCheckRow.inPlace==prog.inPlace 4)=true:=by kernel_rfl
theorem Tv:(Rows.translateCheckRow.unfollowed==prog.unfollowed 4)=true:=by kernel_rfl
theorem Tp:(Rows.translateCheckRow.recurses==prog.recurses 4)=true:=by kernel_rfl
theorem Tm:(Rows.translateCheckRow.named==prog.varsNamed 4)=true:=by kernel_rfl
theorem SF:(Rows.translateCheckRow.maps==(f4.params.toList++Rows.translateCheckSpec.plain.varTypes prog).any (prog.mapsRec ·))=true:=by kernel_rfl
theorem Td:(Rows.translateCheckRow.ifaces==(f4.params.toList++Rows.translateCheckSpec.plain.varTypes prog).any (prog.ifacesRec ·))=true:=by kernel_rfl
theorem SG:(Rows.translateCheckRow.mapsOut==prog.mapsAmong f4.resultTypes.toList)=true:=by kernel_rfl
theorem Tj:(Rows.translateCheckRow.loops==(f4.params.toList++Rows.translateCheckSpec.plain.varTypes prog).any (prog.loopsFrom ·))=true:=by kernel_rfl
theorem Tz:(Rows.translateCheckRow.wideKeys==(f4.params.toList++Rows.translateCheckSpec.plain.varTypes prog++f4.resultTypes.toList).any (prog.wideKeysFrom ·))=true:=by kernel_rfl
theorem Ty:(Rows.translateCheckSpec.vars.all (prog.varReadable ·))=true:=by kernel_rfl
theorem Tq:(f4.resultTypes.all (fun t=>prog.readableRec t&&decide (t<prog.types.size)))=true:=by kernel_rfl
theorem Tc:(Rows.translateCheckRow.ifacesOut==f4.resultTypes.toList.any (prog.ifacesRec ·))=true:=by kernel_rfl
theorem Rp:(Rows.translateCheckRow.loopsOut==f4.resultTypes.toList.any (prog.loopsFrom ·))=true:=by kernel_rfl
theorem UZ:(Rows.translateCheckRow.plainKeys==prog.plainKeys)=true:=by kernel_rfl
theorem Tr:(Rows.translateCheckRow.shortTexts.isNone)=true:=by kernel_rfl
theorem Tb:(prog.stopsHeard)=true:=by kernel_rfl
theorem Ta:(prog.mayEnter)=true:=by kernel_rfl
theorem Ti:(Rows.translateCheckRow.lifted==prog.liftsFinal)=true:=by kernel_rfl
theorem Tl:(prog.make==some Rows.translateCheckRow.make)=true:=by kernel_rfl
theorem Tf:(Rows.translateCheckRow.kinds==(if Rows.translateCheckRow.domain.isEmpty then[]else f4.params.toList.map fun t=>match prog.underlying t with|some (.int k)=>some k|_=>none))=true:=by kernel_rfl
theorem Tn:(Rows.translateCheckRow.pinned==Rows.translateCheckRow.pinnedBy)=true:=by kernel_rfl
theorem Tx:(Rows.translateCheckRow.veiled==(f4.params.toList++Rows.translateCheckSpec.plain.varTypes prog++f4.resultTypes.toList).any (prog.veiledRec ·))=true:=by kernel_rfl
theorem Tw:(Rows.translateCheckRow.veiledFits prog f4.params.toList (f4.params.toList++Rows.translateCheckSpec.plain.varTypes prog++f4.resultTypes.toList))=true:=by kernel_rfl
theorem SC:prog.funcNamed Rows.translateCheckRow.func=some 4:=by kernel_rfl
theorem SB:joinedFacts prog 4 f4 Rows.translateCheckSpec Rows.translateCheckRow=true:=
 Bool.and_eq_true_iff.2 ⟨Bool.and_eq_true_iff.2 ⟨Bool.and_eq_true_iff.2 ⟨Bool.and_eq_true_iff.2 ⟨Bool.and_eq_true_iff.2 ⟨Bool.and_eq_true_iff.2 ⟨Bool.and_eq_true_iff.2 ⟨Bool.and_eq_true_iff.2 ⟨Bool.and_eq_true_iff.2 ⟨Bool.and_eq_true_iff.2 ⟨Bool.and_eq_true_iff.2 ⟨Bool.and_eq_true_iff.2 ⟨Bool.and_eq_true_iff.2 ⟨Bool.and_eq_true_iff.2 ⟨Bool.and_eq_true_iff.2 ⟨Bool.and_eq_true_iff.2 ⟨Bool.and_eq_true_iff.2 ⟨Bool.and_eq_true_iff.2 ⟨Bool.and_eq_true_iff.2 ⟨Bool.and_eq_true_iff.2 ⟨Bool.and_eq_true_iff.2 ⟨Bool.and_eq_true_iff.2 ⟨Bool.and_eq_true_iff.2 ⟨Bool.and_eq_true_iff.2 ⟨Bool.and_eq_true_iff.2 ⟨Bool.and_eq_true_iff.2 ⟨Bool.and_eq_true_iff.2 ⟨Bool.and_eq_true_iff.2 ⟨Bool.and_eq_true_iff.2 ⟨Bool.and_eq_true_iff.2 ⟨Bool.and_eq_true_iff.2 ⟨Ub,SE⟩,Rr⟩,Ua⟩,Tu⟩,Ts⟩,Tt⟩,Tg⟩,Th⟩,Te⟩,Tv⟩,Tp⟩,Tm⟩,SF⟩,Td⟩,SG⟩,Tj⟩,Tz⟩,Ty⟩,Tq⟩,Tc⟩,Rp⟩,UZ⟩,Tr⟩,Tb⟩,Ta⟩,Ti⟩,Tl⟩,Tf⟩,Tn⟩,Tx⟩,Tw⟩
end Go.Proofs.YtagcclhejecceaaGreat
