/- Lemmas. -/
import Derived.Test.YtlbmpkmkmkgniaaGreatDoorRows
import Derived.JoinedOf
import Derived.JoinedAt
import Derived.Handed
set_option linter.all false
set_option maxRecDepth 100000
namespace Go.Proofs.YtlbmpkmkmkgniaaGreatDoor
open Go Go.Proofs.Tryz
theorem Tn:(Rows.explainCheckRow.wf (OpenSpec.ofChange Rows.explainCheckSpec))=true:=by kernel_rfl
theorem SI:(laidOutB prog)=true:=by kernel_rfl
theorem RY:(mapsRowed prog)=true:=by kernel_rfl
theorem Tm:(f4.params.all (prog.readableRec ·))=true:=by kernel_rfl
theorem S6:(namedTie prog Rows.explainCheckRow.named Rows.explainCheckSpec.vars)=true:=by kernel_rfl
theorem S4:(Rows.explainCheckRow.stops==[])=true:=by kernel_rfl
theorem S5:(prog.stops==[])=true:=by kernel_rfl
theorem St:(Rows.explainCheckRow.knobs==[])=true:=by kernel_rfl
theorem Su:(prog.stopKnobs==[])=true:=by kernel_rfl
theorem Sr:(Rows.explainCheckRow.inPlace==prog.inPlace 4)=true:=by kernel_rfl
theorem S7:(Rows.explainCheckRow.unfollowed==prog.unfollowed 4)=true:=by kernel_rfl
theorem S1:(Rows.explainCheckRow.recurses==prog.recurses 4)=true:=by kernel_rfl
theorem Sz:(Rows.explainCheckRow.named==prog.varsNamed 4)=true:=by kernel_rfl
theorem SK:(Rows.explainCheckRow.maps==(f4.params.toList++Rows.explainCheckSpec.plain.varTypes prog).any (prog.mapsRec ·))=true:=by kernel_rfl
theorem Sp:(Rows.explainCheckRow.ifaces==(f4.params.toList++Rows.explainCheckSpec.plain.varTypes prog).any (prog.ifacesRec ·))=true:=by kernel_rfl
theorem SL:(Rows.explainCheckRow.mapsOut==prog.mapsAmong f4.resultTypes.toList)=true:=by kernel_rfl
theorem Sw:(Rows.explainCheckRow.loops==(f4.params.toList++Rows.explainCheckSpec.plain.varTypes prog).any (prog.loopsFrom ·))=true:=by kernel_rfl
theorem TC:(Rows.explainCheckRow.wideKeys==(f4.params.toList++Rows.explainCheckSpec.plain.varTypes prog++f4.resultTypes.toList).any (prog.wideKeysFrom ·))=true:=by kernel_rfl
theorem TA:(Rows.explainCheckSpec.vars.all (prog.varReadable ·))=true:=by kernel_rfl
theorem S2:(f4.resultTypes.all (fun t=>prog.readableRec t&&decide (t<prog.types.size)))=true:=by kernel_rfl
theorem So:(Rows.explainCheckRow.ifacesOut==f4.resultTypes.toList.any (prog.ifacesRec ·))=true:=by kernel_rfl
theorem RX:(Rows.explainCheckRow.loopsOut==f4.resultTypes.toList.any (prog.loopsFrom ·))=true:=by kernel_rfl
theorem Tl:(Rows.explainCheckRow.plainKeys==prog.plainKeys)=true:=by kernel_rfl
theorem S3:(Rows.explainCheckRow.shortTexts.isNone)=true:=by kernel_rfl
theorem Sn:(prog.stopsHeard)=true:=by kernel_rfl
theorem Sl:(prog.mayEnter)=true:=by kernel_rfl
theorem Sv:(Rows.explainCheckRow.lifted==prog.liftsFinal)=true:=by kernel_rfl
theorem Sx:(prog.make==some Rows.explainCheckRow.make)=true:=by kernel_rfl
theorem Ss:(Rows.explainCheckRow.kinds==(if Rows.explainCheckRow.domain.isEmpty then [] else f4.params.toList.map fun t=>match prog.underlying t with | some (.int k)=>some k | _=>none))=true:=by kernel_rfl
theorem S0:(Rows.explainCheckRow.pinned==Rows.explainCheckRow.pinnedBy)=true:=by kernel_rfl
theorem S9:(Rows.explainCheckRow.veiled==(f4.params.toList++Rows.explainCheckSpec.plain.varTypes prog++f4.resultTypes.toList).any (prog.veiledRec ·))=true:=by kernel_rfl
theorem S8:(Rows.explainCheckRow.veiledFits prog f4.params.toList (f4.params.toList++Rows.explainCheckSpec.plain.varTypes prog++f4.resultTypes.toList))=true:=by kernel_rfl
theorem OP:prog.funcNamed Rows.explainCheckRow.func=some 4:=by kernel_rfl
theorem SF:joinedFacts prog 4 f4 Rows.explainCheckSpec Rows.explainCheckRow=true:=
 Bool.and_eq_true_iff.2 ⟨Bool.and_eq_true_iff.2 ⟨Bool.and_eq_true_iff.2 ⟨Bool.and_eq_true_iff.2 ⟨Bool.and_eq_true_iff.2 ⟨Bool.and_eq_true_iff.2 ⟨Bool.and_eq_true_iff.2 ⟨Bool.and_eq_true_iff.2 ⟨Bool.and_eq_true_iff.2 ⟨Bool.and_eq_true_iff.2 ⟨Bool.and_eq_true_iff.2 ⟨Bool.and_eq_true_iff.2 ⟨Bool.and_eq_true_iff.2 ⟨Bool.and_eq_true_iff.2 ⟨Bool.and_eq_true_iff.2 ⟨Bool.and_eq_true_iff.2 ⟨Bool.and_eq_true_iff.2 ⟨Bool.and_eq_true_iff.2 ⟨Bool.and_eq_true_iff.2 ⟨Bool.and_eq_true_iff.2 ⟨Bool.and_eq_true_iff.2 ⟨Bool.and_eq_true_iff.2 ⟨Bool.and_eq_true_iff.2 ⟨Bool.and_eq_true_iff.2 ⟨Bool.and_eq_true_iff.2 ⟨Bool.and_eq_true_iff.2 ⟨Bool.and_eq_true_iff.2 ⟨Bool.and_eq_true_iff.2 ⟨Bool.and_eq_true_iff.2 ⟨Bool.and_eq_true_iff.2 ⟨Bool.and_eq_true_iff.2 ⟨Tn,SI⟩,RY⟩,Tm⟩,S6⟩,S4⟩,S5⟩,St⟩,Su⟩,Sr⟩,S7⟩,S1⟩,Sz⟩,SK⟩,Sp⟩,SL⟩,Sw⟩,TC⟩,TA⟩,S2⟩,So⟩,RX⟩,Tl⟩,S3⟩,Sn⟩,Sl⟩,Sv⟩,Sx⟩,Ss⟩,S0⟩,S9⟩,S8⟩
end Go.Proofs.YtlbmpkmkmkgniaaGreatDoor
