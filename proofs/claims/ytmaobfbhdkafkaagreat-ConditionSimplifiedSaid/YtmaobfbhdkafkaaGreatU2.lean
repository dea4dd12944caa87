/- Lemmas. -/
import Derived.Test.YtmaobfbhdkafkaaGreatRows
import Derived.JoinedOf
import Derived.JoinedAt
import Derived.Handed
set_option maxRecDepth 100000
namespace Go.Proofs.YtmaobfbhdkafkaaGreat
open Go Go.Proofs.Tryz
theorem Pf:(Rows.conditionSimplifiedRow.wf (OpenSpec.ofChange Rows.conditionSimplifiedSpec))=true:=by kernel_rfl
theorem OO:(laidOutB prog)=true:=by kernel_rfl
theorem Ny:(mapsRowed prog)=true:=by kernel_rfl
theorem Pe:(f10.params.all (prog.readableRec ·))=true:=by kernel_rfl
theorem Oz:(namedTie prog Rows.conditionSimplifiedRow.named Rows.conditionSimplifiedSpec.vars)=true:=by kernel_rfl
theorem Ox:(Rows.conditionSimplifiedRow.stops==[])=true:=by kernel_rfl
theorem Oy:(prog.stops==[])=true:=by kernel_rfl
theorem Ok:(Rows.conditionSimplifiedRow.knobs==[])=true:=by kernel_rfl
theorem Ol:(prog.stopKnobs==[])=true:=by kernel_rfl
theorem Oi:(Rows.conditionSimplifiedRow.inPlace==prog.inPlace 10)=true:=by kernel_rfl
theorem O0:(Rows.conditionSimplifiedRow.unfollowed==prog.unfollowed 10)=true:=by kernel_rfl
theorem Ou:(Rows.conditionSimplifiedRow.recurses==prog.recurses 10)=true:=by kernel_rfl
theorem Oq:(Rows.conditionSimplifiedRow.named==prog.varsNamed 10)=true:=by kernel_rfl
theorem OP:(Rows.conditionSimplifiedRow.maps==(f10.params.toList++Rows.conditionSimplifiedSpec.plain.varTypes prog).any (prog.mapsRec ·))=true:=by kernel_rfl
theorem Oh:(Rows.conditionSimplifiedRow.ifaces==(f10.params.toList++Rows.conditionSimplifiedSpec.plain.varTypes prog).any (prog.ifacesRec ·))=true:=by kernel_rfl
theorem OQ:(Rows.conditionSimplifiedRow.mapsOut==prog.mapsAmong f10.resultTypes.toList)=true:=by kernel_rfl
theorem On:(Rows.conditionSimplifiedRow.loops==(f10.params.toList++Rows.conditionSimplifiedSpec.plain.varTypes prog).any (prog.loopsFrom ·))=true:=by kernel_rfl
theorem O4:(Rows.conditionSimplifiedRow.wideKeys==(f10.params.toList++Rows.conditionSimplifiedSpec.plain.varTypes prog++f10.resultTypes.toList).any (prog.wideKeysFrom ·))=true:=by kernel_rfl
theorem O3:(Rows.conditionSimplifiedSpec.vars.all (prog.varReadable ·))=true:=by kernel_rfl
theorem Ov:(f10.resultTypes.all (fun t=>prog.readableRec t&&decide (t<prog.types.size)))=true:=by kernel_rfl
theorem Og:(Rows.conditionSimplifiedRow.ifacesOut==f10.resultTypes.toList.any (prog.ifacesRec ·))=true:=by kernel_rfl
theorem Nx:(Rows.conditionSimplifiedRow.loopsOut==f10.resultTypes.toList.any (prog.loopsFrom ·))=true:=by kernel_rfl
theorem Pd:(Rows.conditionSimplifiedRow.plainKeys==prog.plainKeys)=true:=by kernel_rfl
theorem Ow:(Rows.conditionSimplifiedRow.shortTexts.isNone)=true:=by kernel_rfl
theorem Of:(prog.stopsHeard)=true:=by kernel_rfl
theorem Oe:(prog.mayEnter)=true:=by kernel_rfl
theorem Om:(Rows.conditionSimplifiedRow.lifted==prog.liftsFinal)=true:=by kernel_rfl
theorem Oo:(prog.make==some Rows.conditionSimplifiedRow.make)=true:=by kernel_rfl
theorem Oj:(Rows.conditionSimplifiedRow.kinds==(if Rows.conditionSimplifiedRow.domain.isEmpty then [] else f10.params.toList.map fun t=>match prog.underlying t with | some (.int k)=>some k | _=>none))=true:=by kernel_rfl
theorem Ot:(Rows.conditionSimplifiedRow.pinned==Rows.conditionSimplifiedRow.pinnedBy)=true:=by kernel_rfl
theorem O2:(Rows.conditionSimplifiedRow.veiled==(f10.params.toList++Rows.conditionSimplifiedSpec.plain.varTypes prog++f10.resultTypes.toList).any (prog.veiledRec ·))=true:=by kernel_rfl
theorem O1:(Rows.conditionSimplifiedRow.veiledFits prog f10.params.toList (f10.params.toList++Rows.conditionSimplifiedSpec.plain.varTypes prog++f10.resultTypes.toList))=true:=by kernel_rfl
theorem OM:prog.funcNamed Rows.conditionSimplifiedRow.func=some 10:=by kernel_rfl
theorem OL:joinedFacts prog 10 f10 Rows.conditionSimplifiedSpec Rows.conditionSimplifiedRow=true:=
 Bool.and_eq_true_iff.2 ⟨Bool.and_eq_true_iff.2 ⟨Bool.and_eq_true_iff.2 ⟨Bool.and_eq_true_iff.2 ⟨Bool.and_eq_true_iff.2 ⟨Bool.and_eq_true_iff.2 ⟨Bool.and_eq_true_iff.2 ⟨Bool.and_eq_true_iff.2 ⟨Bool.and_eq_true_iff.2 ⟨Bool.and_eq_true_iff.2 ⟨Bool.and_eq_true_iff.2 ⟨Bool.and_eq_true_iff.2 ⟨Bool.and_eq_true_iff.2 ⟨Bool.and_eq_true_iff.2 ⟨Bool.and_eq_true_iff.2 ⟨Bool.and_eq_true_iff.2 ⟨Bool.and_eq_true_iff.2 ⟨Bool.and_eq_true_iff.2 ⟨Bool.and_eq_true_iff.2 ⟨Bool.and_eq_true_iff.2 ⟨Bool.and_eq_true_iff.2 ⟨Bool.and_eq_true_iff.2 ⟨Bool.and_eq_true_iff.2 ⟨Bool.and_eq_true_iff.2 ⟨Bool.and_eq_true_iff.2 ⟨Bool.and_eq_true_iff.2 ⟨Bool.and_eq_true_iff.2 ⟨Bool.and_eq_true_iff.2 ⟨Bool.and_eq_true_iff.2 ⟨Bool.and_eq_true_iff.2 ⟨Bool.and_eq_true_iff.2 ⟨Pf,OO⟩,Ny⟩,Pe⟩,Oz⟩,Ox⟩,Oy⟩,Ok⟩,Ol⟩,Oi⟩,O0⟩,Ou⟩,Oq⟩,OP⟩,Oh⟩,OQ⟩,On⟩,O4⟩,O3⟩,Ov⟩,Og⟩,Nx⟩,Pd⟩,Ow⟩,Of⟩,Oe⟩,Om⟩,Oo⟩,Oj⟩,Ot⟩,O2⟩,O1⟩
end Go.Proofs.YtmaobfbhdkafkaaGreat
