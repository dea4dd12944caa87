/- Lemmas. -/
import Derived.Test.YtmaobfbhdkafkaaGreatRows
import Derived.JoinedOf
import Derived.JoinedAt
import Derived.Handed
set_option maxRecDepth 100000
namespace Go.Proofs.YtmaobfbhdkafkaaGreat
open Go Go.Proofs.Tryz
theorem PE:(Rows.conditionWitnessRow.wf (OpenSpec.ofChange Rows.conditionWitnessSpec))=true:=by kernel_rfl
theorem Nh:(laidOutB prog)=true:=by kernel_rfl
theorem NR:(mapsRowed prog)=true:=by kernel_rfl
theorem PD:(f5.params.all (prog.readableRec ·))=true:=by kernel_rfl
theorem OP:(namedTie prog Rows.conditionWitnessRow.named Rows.conditionWitnessSpec.vars)=true:=by kernel_rfl
theorem ON:(Rows.conditionWitnessRow.stops==[])=true:=by kernel_rfl
theorem OO:(prog.stops==[])=true:=by kernel_rfl
theorem OD:(Rows.conditionWitnessRow.knobs==[])=true:=by kernel_rfl
theorem OE:(prog.stopKnobs==[])=true:=by kernel_rfl
theorem OB:(Rows.conditionWitnessRow.inPlace==prog.inPlace 5)=true:=by kernel_rfl
theorem OQ:(Rows.conditionWitnessRow.unfollowed==prog.unfollowed 5)=true:=by kernel_rfl
theorem OK:(Rows.conditionWitnessRow.recurses==prog.recurses 5)=true:=by kernel_rfl
theorem OI:(Rows.conditionWitnessRow.named==prog.varsNamed 5)=true:=by kernel_rfl
theorem Ni:(Rows.conditionWitnessRow.maps==(f5.params.toList++Rows.conditionWitnessSpec.plain.varTypes prog).any (prog.mapsRec ·))=true:=by kernel_rfl
theorem OA:(Rows.conditionWitnessRow.ifaces==(f5.params.toList++Rows.conditionWitnessSpec.plain.varTypes prog).any (prog.ifacesRec ·))=true:=by kernel_rfl
theorem Nj:(Rows.conditionWitnessRow.mapsOut==prog.mapsAmong f5.resultTypes.toList)=true:=by kernel_rfl
theorem OG:(Rows.conditionWitnessRow.loops==(f5.params.toList++Rows.conditionWitnessSpec.plain.varTypes prog).any (prog.loopsFrom ·))=true:=by kernel_rfl
theorem OU:(Rows.conditionWitnessRow.wideKeys==(f5.params.toList++Rows.conditionWitnessSpec.plain.varTypes prog++f5.resultTypes.toList).any (prog.wideKeysFrom ·))=true:=by kernel_rfl
theorem OT:(Rows.conditionWitnessSpec.vars.all (prog.varReadable ·))=true:=by kernel_rfl
theorem OL:(f5.resultTypes.all (fun t=>prog.readableRec t&&decide (t<prog.types.size)))=true:=by kernel_rfl
theorem N9:(Rows.conditionWitnessRow.ifacesOut==f5.resultTypes.toList.any (prog.ifacesRec ·))=true:=by kernel_rfl
theorem NQ:(Rows.conditionWitnessRow.loopsOut==f5.resultTypes.toList.any (prog.loopsFrom ·))=true:=by kernel_rfl
theorem PB:(Rows.conditionWitnessRow.plainKeys==prog.plainKeys)=true:=by kernel_rfl
theorem OM:(Rows.conditionWitnessRow.shortTexts.isNone)=true:=by kernel_rfl
theorem N8:(prog.stopsHeard)=true:=by kernel_rfl
theorem N7:(prog.mayEnter)=true:=by kernel_rfl
theorem OF:(Rows.conditionWitnessRow.lifted==prog.liftsFinal)=true:=by kernel_rfl
theorem OH:(prog.make==some Rows.conditionWitnessRow.make)=true:=by kernel_rfl
theorem OC:(Rows.conditionWitnessRow.kinds==(if Rows.conditionWitnessRow.domain.isEmpty then [] else f5.params.toList.map fun t=>match prog.underlying t with | some (.int k)=>some k | _=>none))=true:=by kernel_rfl
theorem OJ:(Rows.conditionWitnessRow.pinned==Rows.conditionWitnessRow.pinnedBy)=true:=by kernel_rfl
theorem OS:(Rows.conditionWitnessRow.veiled==(f5.params.toList++Rows.conditionWitnessSpec.plain.varTypes prog++f5.resultTypes.toList).any (prog.veiledRec ·))=true:=by kernel_rfl
theorem OR:(Rows.conditionWitnessRow.veiledFits prog f5.params.toList (f5.params.toList++Rows.conditionWitnessSpec.plain.varTypes prog++f5.resultTypes.toList))=true:=by kernel_rfl
theorem Nf:prog.funcNamed Rows.conditionWitnessRow.func=some 5:=by kernel_rfl
theorem Nd:joinedFacts prog 5 f5 Rows.conditionWitnessSpec Rows.conditionWitnessRow=true:=
 Bool.and_eq_true_iff.2 ⟨Bool.and_eq_true_iff.2 ⟨Bool.and_eq_true_iff.2 ⟨Bool.and_eq_true_iff.2 ⟨Bool.and_eq_true_iff.2 ⟨Bool.and_eq_true_iff.2 ⟨Bool.and_eq_true_iff.2 ⟨Bool.and_eq_true_iff.2 ⟨Bool.and_eq_true_iff.2 ⟨Bool.and_eq_true_iff.2 ⟨Bool.and_eq_true_iff.2 ⟨Bool.and_eq_true_iff.2 ⟨Bool.and_eq_true_iff.2 ⟨Bool.and_eq_true_iff.2 ⟨Bool.and_eq_true_iff.2 ⟨Bool.and_eq_true_iff.2 ⟨Bool.and_eq_true_iff.2 ⟨Bool.and_eq_true_iff.2 ⟨Bool.and_eq_true_iff.2 ⟨Bool.and_eq_true_iff.2 ⟨Bool.and_eq_true_iff.2 ⟨Bool.and_eq_true_iff.2 ⟨Bool.and_eq_true_iff.2 ⟨Bool.and_eq_true_iff.2 ⟨Bool.and_eq_true_iff.2 ⟨Bool.and_eq_true_iff.2 ⟨Bool.and_eq_true_iff.2 ⟨Bool.and_eq_true_iff.2 ⟨Bool.and_eq_true_iff.2 ⟨Bool.and_eq_true_iff.2 ⟨Bool.and_eq_true_iff.2 ⟨PE,Nh⟩,NR⟩,PD⟩,OP⟩,ON⟩,OO⟩,OD⟩,OE⟩,OB⟩,OQ⟩,OK⟩,OI⟩,Ni⟩,OA⟩,Nj⟩,OG⟩,OU⟩,OT⟩,OL⟩,N9⟩,NQ⟩,PB⟩,OM⟩,N8⟩,N7⟩,OF⟩,OH⟩,OC⟩,OJ⟩,OS⟩,OR⟩
end Go.Proofs.YtmaobfbhdkafkaaGreat
