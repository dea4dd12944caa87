/- Lemmas. -/
import Derived.Test.YtmaobfbhdkafkaaGreatRows
import Derived.JoinedOf
import Derived.JoinedAt
import Derived.Handed
set_option maxRecDepth 100000
namespace Go.Proofs.YtmaobfbhdkafkaaGreat
open Go Go.Proofs.Tryz
theorem P5:(Rows.conditionCheckRow.wf (OpenSpec.ofChange Rows.conditionCheckSpec))=true:=by kernel_rfl
theorem On:(laidOutB prog)=true:=by kernel_rfl
theorem N4:(mapsRowed prog)=true:=by kernel_rfl
theorem P4:(f6.params.all (prog.readableRec ·))=true:=by kernel_rfl
theorem PJ:(namedTie prog Rows.conditionCheckRow.named Rows.conditionCheckSpec.vars)=true:=by kernel_rfl
theorem PH:(Rows.conditionCheckRow.stops==[])=true:=by kernel_rfl
theorem PI:(prog.stops==[])=true:=by kernel_rfl
theorem O6:(Rows.conditionCheckRow.knobs==[])=true:=by kernel_rfl
theorem O7:(prog.stopKnobs==[])=true:=by kernel_rfl
theorem O4:(Rows.conditionCheckRow.inPlace==prog.inPlace 6)=true:=by kernel_rfl
theorem PK:(Rows.conditionCheckRow.unfollowed==prog.unfollowed 6)=true:=by kernel_rfl
theorem PE:(Rows.conditionCheckRow.recurses==prog.recurses 6)=true:=by kernel_rfl
theorem PB:(Rows.conditionCheckRow.named==prog.varsNamed 6)=true:=by kernel_rfl
theorem Oo:(Rows.conditionCheckRow.maps==(f6.params.toList++Rows.conditionCheckSpec.plain.varTypes prog).any (prog.mapsRec ·))=true:=by kernel_rfl
theorem O3:(Rows.conditionCheckRow.ifaces==(f6.params.toList++Rows.conditionCheckSpec.plain.varTypes prog).any (prog.ifacesRec ·))=true:=by kernel_rfl
theorem Oq:(Rows.conditionCheckRow.mapsOut==prog.mapsAmong f6.resultTypes.toList)=true:=by kernel_rfl
theorem O9:(Rows.conditionCheckRow.loops==(f6.params.toList++Rows.conditionCheckSpec.plain.varTypes prog).any (prog.loopsFrom ·))=true:=by kernel_rfl
theorem PO:(Rows.conditionCheckRow.wideKeys==(f6.params.toList++Rows.conditionCheckSpec.plain.varTypes prog++f6.resultTypes.toList).any (prog.wideKeysFrom ·))=true:=by kernel_rfl
theorem PN:(Rows.conditionCheckSpec.vars.all (prog.varReadable ·))=true:=by kernel_rfl
theorem PF:(f6.resultTypes.all (fun t=>prog.readableRec t&&decide (t<prog.types.size)))=true:=by kernel_rfl
theorem O2:(Rows.conditionCheckRow.ifacesOut==f6.resultTypes.toList.any (prog.ifacesRec ·))=true:=by kernel_rfl
theorem N3:(Rows.conditionCheckRow.loopsOut==f6.resultTypes.toList.any (prog.loopsFrom ·))=true:=by kernel_rfl
theorem P3:(Rows.conditionCheckRow.plainKeys==prog.plainKeys)=true:=by kernel_rfl
theorem PG:(Rows.conditionCheckRow.shortTexts.isNone)=true:=by kernel_rfl
theorem O1:(prog.stopsHeard)=true:=by kernel_rfl
theorem O0:(prog.mayEnter)=true:=by kernel_rfl
theorem O8:(Rows.conditionCheckRow.lifted==prog.liftsFinal)=true:=by kernel_rfl
theorem PA:(prog.make==some Rows.conditionCheckRow.make)=true:=by kernel_rfl
theorem O5:(Rows.conditionCheckRow.kinds==(if Rows.conditionCheckRow.domain.isEmpty then [] else f6.params.toList.map fun t=>match prog.underlying t with | some (.int k)=>some k | _=>none))=true:=by kernel_rfl
theorem PD:(Rows.conditionCheckRow.pinned==Rows.conditionCheckRow.pinnedBy)=true:=by kernel_rfl
theorem PM:(Rows.conditionCheckRow.veiled==(f6.params.toList++Rows.conditionCheckSpec.plain.varTypes prog++f6.resultTypes.toList).any (prog.veiledRec ·))=true:=by kernel_rfl
theorem PL:(Rows.conditionCheckRow.veiledFits prog f6.params.toList (f6.params.toList++Rows.conditionCheckSpec.plain.varTypes prog++f6.resultTypes.toList))=true:=by kernel_rfl
theorem Ol:prog.funcNamed Rows.conditionCheckRow.func=some 6:=by kernel_rfl
theorem Ok:joinedFacts prog 6 f6 Rows.conditionCheckSpec Rows.conditionCheckRow=true:=
 Bool.and_eq_true_iff.2 ⟨Bool.and_eq_true_iff.2 ⟨Bool.and_eq_true_iff.2 ⟨Bool.and_eq_true_iff.2 ⟨Bool.and_eq_true_iff.2 ⟨Bool.and_eq_true_iff.2 ⟨Bool.and_eq_true_iff.2 ⟨Bool.and_eq_true_iff.2 ⟨Bool.and_eq_true_iff.2 ⟨Bool.and_eq_true_iff.2 ⟨Bool.and_eq_true_iff.2 ⟨Bool.and_eq_true_iff.2 ⟨Bool.and_eq_true_iff.2 ⟨Bool.and_eq_true_iff.2 ⟨Bool.and_eq_true_iff.2 ⟨Bool.and_eq_true_iff.2 ⟨Bool.and_eq_true_iff.2 ⟨Bool.and_eq_true_iff.2 ⟨Bool.and_eq_true_iff.2 ⟨Bool.and_eq_true_iff.2 ⟨Bool.and_eq_true_iff.2 ⟨Bool.and_eq_true_iff.2 ⟨Bool.and_eq_true_iff.2 ⟨Bool.and_eq_true_iff.2 ⟨Bool.and_eq_true_iff.2 ⟨Bool.and_eq_true_iff.2 ⟨Bool.and_eq_true_iff.2 ⟨Bool.and_eq_true_iff.2 ⟨Bool.and_eq_true_iff.2 ⟨Bool.and_eq_true_iff.2 ⟨Bool.and_eq_true_iff.2 ⟨P5,On⟩,N4⟩,P4⟩,PJ⟩,PH⟩,PI⟩,O6⟩,O7⟩,O4⟩,PK⟩,PE⟩,PB⟩,Oo⟩,O3⟩,Oq⟩,O9⟩,PO⟩,PN⟩,PF⟩,O2⟩,N3⟩,P3⟩,PG⟩,O1⟩,O0⟩,O8⟩,PA⟩,O5⟩,PD⟩,PM⟩,PL⟩
end Go.Proofs.YtmaobfbhdkafkaaGreat
