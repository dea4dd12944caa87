/- Lemmas. -/
import Derived.Test.YtmaobfbhdkafkaaGreatRows
import Derived.JoinedOf
import Derived.JoinedAt
import Derived.Handed
set_option maxRecDepth 100000
namespace Go.Proofs.YtmaobfbhdkafkaaGreat
open Go Go.Proofs.Tryz
theorem QD:(Rows.conditionBooleanRow.wf (OpenSpec.ofChange Rows.conditionBooleanSpec))=true:=by kernel_rfl
theorem Oc:(laidOutB prog)=true:=by kernel_rfl
theorem OR:(mapsRowed prog)=true:=by kernel_rfl
theorem QC:(f7.params.all (prog.readableRec ·))=true:=by kernel_rfl
theorem PN:(namedTie prog Rows.conditionBooleanRow.named Rows.conditionBooleanSpec.vars)=true:=by kernel_rfl
theorem PL:(Rows.conditionBooleanRow.stops==[])=true:=by kernel_rfl
theorem PM:(prog.stops==[])=true:=by kernel_rfl
theorem PA:(Rows.conditionBooleanRow.knobs==[])=true:=by kernel_rfl
theorem PB:(prog.stopKnobs==[])=true:=by kernel_rfl
theorem O8:(Rows.conditionBooleanRow.inPlace==prog.inPlace 7)=true:=by kernel_rfl
theorem PO:(Rows.conditionBooleanRow.unfollowed==prog.unfollowed 7)=true:=by kernel_rfl
theorem PI:(Rows.conditionBooleanRow.recurses==prog.recurses 7)=true:=by kernel_rfl
theorem PG:(Rows.conditionBooleanRow.named==prog.varsNamed 7)=true:=by kernel_rfl
theorem Od:(Rows.conditionBooleanRow.maps==(f7.params.toList++Rows.conditionBooleanSpec.plain.varTypes prog).any (prog.mapsRec ·))=true:=by kernel_rfl
theorem O7:(Rows.conditionBooleanRow.ifaces==(f7.params.toList++Rows.conditionBooleanSpec.plain.varTypes prog).any (prog.ifacesRec ·))=true:=by kernel_rfl
theorem Oe:(Rows.conditionBooleanRow.mapsOut==prog.mapsAmong f7.resultTypes.toList)=true:=by kernel_rfl
theorem PE:(Rows.conditionBooleanRow.loops==(f7.params.toList++Rows.conditionBooleanSpec.plain.varTypes prog).any (prog.loopsFrom ·))=true:=by kernel_rfl
theorem PT:(Rows.conditionBooleanRow.wideKeys==(f7.params.toList++Rows.conditionBooleanSpec.plain.varTypes prog++f7.resultTypes.toList).any (prog.wideKeysFrom ·))=true:=by kernel_rfl
theorem PS:(Rows.conditionBooleanSpec.vars.all (prog.varReadable ·))=true:=by kernel_rfl
theorem PJ:(f7.resultTypes.all (fun t=>prog.readableRec t&&decide (t<prog.types.size)))=true:=by kernel_rfl
theorem O6:(Rows.conditionBooleanRow.ifacesOut==f7.resultTypes.toList.any (prog.ifacesRec ·))=true:=by kernel_rfl
theorem OQ:(Rows.conditionBooleanRow.loopsOut==f7.resultTypes.toList.any (prog.loopsFrom ·))=true:=by kernel_rfl
theorem QB:(Rows.conditionBooleanRow.plainKeys==prog.plainKeys)=true:=by kernel_rfl
theorem PK:(Rows.conditionBooleanRow.shortTexts.isNone)=true:=by kernel_rfl
theorem O5:(prog.stopsHeard)=true:=by kernel_rfl
theorem O4:(prog.mayEnter)=true:=by kernel_rfl
theorem PD:(Rows.conditionBooleanRow.lifted==prog.liftsFinal)=true:=by kernel_rfl
theorem PF:(prog.make==some Rows.conditionBooleanRow.make)=true:=by kernel_rfl
theorem O9:(Rows.conditionBooleanRow.kinds==(if Rows.conditionBooleanRow.domain.isEmpty then [] else f7.params.toList.map fun t=>match prog.underlying t with | some (.int k)=>some k | _=>none))=true:=by kernel_rfl
theorem PH:(Rows.conditionBooleanRow.pinned==Rows.conditionBooleanRow.pinnedBy)=true:=by kernel_rfl
theorem PQ:(Rows.conditionBooleanRow.veiled==(f7.params.toList++Rows.conditionBooleanSpec.plain.varTypes prog++f7.resultTypes.toList).any (prog.veiledRec ·))=true:=by kernel_rfl
theorem PP:(Rows.conditionBooleanRow.veiledFits prog f7.params.toList (f7.params.toList++Rows.conditionBooleanSpec.plain.varTypes prog++f7.resultTypes.toList))=true:=by kernel_rfl
theorem Oa:prog.funcNamed Rows.conditionBooleanRow.func=some 7:=by kernel_rfl
theorem OZ:joinedFacts prog 7 f7 Rows.conditionBooleanSpec Rows.conditionBooleanRow=true:=
 Bool.and_eq_true_iff.2 ⟨Bool.and_eq_true_iff.2 ⟨Bool.and_eq_true_iff.2 ⟨Bool.and_eq_true_iff.2 ⟨Bool.and_eq_true_iff.2 ⟨Bool.and_eq_true_iff.2 ⟨Bool.and_eq_true_iff.2 ⟨Bool.and_eq_true_iff.2 ⟨Bool.and_eq_true_iff.2 ⟨Bool.and_eq_true_iff.2 ⟨Bool.and_eq_true_iff.2 ⟨Bool.and_eq_true_iff.2 ⟨Bool.and_eq_true_iff.2 ⟨Bool.and_eq_true_iff.2 ⟨Bool.and_eq_true_iff.2 ⟨Bool.and_eq_true_iff.2 ⟨Bool.and_eq_true_iff.2 ⟨Bool.and_eq_true_iff.2 ⟨Bool.and_eq_true_iff.2 ⟨Bool.and_eq_true_iff.2 ⟨Bool.and_eq_true_iff.2 ⟨Bool.and_eq_true_iff.2 ⟨Bool.and_eq_true_iff.2 ⟨Bool.and_eq_true_iff.2 ⟨Bool.and_eq_true_iff.2 ⟨Bool.and_eq_true_iff.2 ⟨Bool.and_eq_true_iff.2 ⟨Bool.and_eq_true_iff.2 ⟨Bool.and_eq_true_iff.2 ⟨Bool.and_eq_true_iff.2 ⟨Bool.and_eq_true_iff.2 ⟨QD,Oc⟩,OR⟩,QC⟩,PN⟩,PL⟩,PM⟩,PA⟩,PB⟩,O8⟩,PO⟩,PI⟩,PG⟩,Od⟩,O7⟩,Oe⟩,PE⟩,PT⟩,PS⟩,PJ⟩,O6⟩,OQ⟩,QB⟩,PK⟩,O5⟩,O4⟩,PD⟩,PF⟩,O9⟩,PH⟩,PQ⟩,PP⟩
end Go.Proofs.YtmaobfbhdkafkaaGreat
