/- Lemmas. -/
import Derived.Test.YtmaobfbhdkafkaaGreatRows
import Derived.JoinedOf
import Derived.JoinedAt
import Derived.Handed
set_option maxRecDepth 100000
namespace Go.Proofs.YtmaobfbhdkafkaaGreat
open Go Go.Proofs.Tryz
theorem QF:(Rows.conditionExtendsRow.wf (OpenSpec.ofChange Rows.conditionExtendsSpec))=true:=by kernel_rfl
theorem Og:(laidOutB prog)=true:=by kernel_rfl
theorem OV:(mapsRowed prog)=true:=by kernel_rfl
theorem QE:(f8.params.all (prog.readableRec ·))=true:=by kernel_rfl
theorem PQ:(namedTie prog Rows.conditionExtendsRow.named Rows.conditionExtendsSpec.vars)=true:=by kernel_rfl
theorem PO:(Rows.conditionExtendsRow.stops==[])=true:=by kernel_rfl
theorem PP:(prog.stops==[])=true:=by kernel_rfl
theorem PE:(Rows.conditionExtendsRow.knobs==[])=true:=by kernel_rfl
theorem PF:(prog.stopKnobs==[])=true:=by kernel_rfl
theorem PB:(Rows.conditionExtendsRow.inPlace==prog.inPlace 8)=true:=by kernel_rfl
theorem PS:(Rows.conditionExtendsRow.unfollowed==prog.unfollowed 8)=true:=by kernel_rfl
theorem PL:(Rows.conditionExtendsRow.recurses==prog.recurses 8)=true:=by kernel_rfl
theorem PJ:(Rows.conditionExtendsRow.named==prog.varsNamed 8)=true:=by kernel_rfl
theorem Oh:(Rows.conditionExtendsRow.maps==(f8.params.toList++Rows.conditionExtendsSpec.plain.varTypes prog).any (prog.mapsRec ·))=true:=by kernel_rfl
theorem PA:(Rows.conditionExtendsRow.ifaces==(f8.params.toList++Rows.conditionExtendsSpec.plain.varTypes prog).any (prog.ifacesRec ·))=true:=by kernel_rfl
theorem Oi:(Rows.conditionExtendsRow.mapsOut==prog.mapsAmong f8.resultTypes.toList)=true:=by kernel_rfl
theorem PH:(Rows.conditionExtendsRow.loops==(f8.params.toList++Rows.conditionExtendsSpec.plain.varTypes prog).any (prog.loopsFrom ·))=true:=by kernel_rfl
theorem PW:(Rows.conditionExtendsRow.wideKeys==(f8.params.toList++Rows.conditionExtendsSpec.plain.varTypes prog++f8.resultTypes.toList).any (prog.wideKeysFrom ·))=true:=by kernel_rfl
theorem PV:(Rows.conditionExtendsSpec.vars.all (prog.varReadable ·))=true:=by kernel_rfl
theorem PM:(f8.resultTypes.all (fun t=>prog.readableRec t&&decide (t<prog.types.size)))=true:=by kernel_rfl
theorem O9:(Rows.conditionExtendsRow.ifacesOut==f8.resultTypes.toList.any (prog.ifacesRec ·))=true:=by kernel_rfl
theorem OU:(Rows.conditionExtendsRow.loopsOut==f8.resultTypes.toList.any (prog.loopsFrom ·))=true:=by kernel_rfl
theorem QD:(Rows.conditionExtendsRow.plainKeys==prog.plainKeys)=true:=by kernel_rfl
theorem PN:(Rows.conditionExtendsRow.shortTexts.isNone)=true:=by kernel_rfl
theorem O8:(prog.stopsHeard)=true:=by kernel_rfl
theorem O7:(prog.mayEnter)=true:=by kernel_rfl
theorem PG:(Rows.conditionExtendsRow.lifted==prog.liftsFinal)=true:=by kernel_rfl
theorem PI:(prog.make==some Rows.conditionExtendsRow.make)=true:=by kernel_rfl
theorem PD:(Rows.conditionExtendsRow.kinds==(if Rows.conditionExtendsRow.domain.isEmpty then [] else f8.params.toList.map fun t=>match prog.underlying t with | some (.int k)=>some k | _=>none))=true:=by kernel_rfl
theorem PK:(Rows.conditionExtendsRow.pinned==Rows.conditionExtendsRow.pinnedBy)=true:=by kernel_rfl
theorem PU:(Rows.conditionExtendsRow.veiled==(f8.params.toList++Rows.conditionExtendsSpec.plain.varTypes prog++f8.resultTypes.toList).any (prog.veiledRec ·))=true:=by kernel_rfl
theorem PT:(Rows.conditionExtendsRow.veiledFits prog f8.params.toList (f8.params.toList++Rows.conditionExtendsSpec.plain.varTypes prog++f8.resultTypes.toList))=true:=by kernel_rfl
theorem Oe:prog.funcNamed Rows.conditionExtendsRow.func=some 8:=by kernel_rfl
theorem Od:joinedFacts prog 8 f8 Rows.conditionExtendsSpec Rows.conditionExtendsRow=true:=
 Bool.and_eq_true_iff.2 ⟨Bool.and_eq_true_iff.2 ⟨Bool.and_eq_true_iff.2 ⟨Bool.and_eq_true_iff.2 ⟨Bool.and_eq_true_iff.2 ⟨Bool.and_eq_true_iff.2 ⟨Bool.and_eq_true_iff.2 ⟨Bool.and_eq_true_iff.2 ⟨Bool.and_eq_true_iff.2 ⟨Bool.and_eq_true_iff.2 ⟨Bool.and_eq_true_iff.2 ⟨Bool.and_eq_true_iff.2 ⟨Bool.and_eq_true_iff.2 ⟨Bool.and_eq_true_iff.2 ⟨Bool.and_eq_true_iff.2 ⟨Bool.and_eq_true_iff.2 ⟨Bool.and_eq_true_iff.2 ⟨Bool.and_eq_true_iff.2 ⟨Bool.and_eq_true_iff.2 ⟨Bool.and_eq_true_iff.2 ⟨Bool.and_eq_true_iff.2 ⟨Bool.and_eq_true_iff.2 ⟨Bool.and_eq_true_iff.2 ⟨Bool.and_eq_true_iff.2 ⟨Bool.and_eq_true_iff.2 ⟨Bool.and_eq_true_iff.2 ⟨Bool.and_eq_true_iff.2 ⟨Bool.and_eq_true_iff.2 ⟨Bool.and_eq_true_iff.2 ⟨Bool.and_eq_true_iff.2 ⟨Bool.and_eq_true_iff.2 ⟨QF,Og⟩,OV⟩,QE⟩,PQ⟩,PO⟩,PP⟩,PE⟩,PF⟩,PB⟩,PS⟩,PL⟩,PJ⟩,Oh⟩,PA⟩,Oi⟩,PH⟩,PW⟩,PV⟩,PM⟩,O9⟩,OU⟩,QD⟩,PN⟩,O8⟩,O7⟩,PG⟩,PI⟩,PD⟩,PK⟩,PU⟩,PT⟩
end Go.Proofs.YtmaobfbhdkafkaaGreat
