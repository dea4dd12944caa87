/- Lemmas. -/
import Derived.Test.YthhobbgaejimgaaGreatDoorRows
import Derived.JoinedOf
import Derived.JoinedAt
import Derived.Handed
set_option linter.all false
set_option maxRecDepth 100000
namespace Go.Proofs.YthhobbgaejimgaaGreatDoor
open Go Go.Proofs.Tryz
theorem NO:(Rows.derivationFormatRow.wf (OpenSpec.ofChange Rows.derivationFormatSpec))=true:=by kernel_rfl
theorem Lh:(laidOutB prog)=true:=by kernel_rfl
theorem LH:(mapsRowed prog)=true:=by kernel_rfl
theorem NN:(f3.params.all (prog.readableRec ·))=true:=by kernel_rfl
theorem MV:(namedTie prog Rows.derivationFormatRow.named Rows.derivationFormatSpec.vars)=true:=by kernel_rfl
theorem MT:(Rows.derivationFormatRow.stops==[])=true:=by kernel_rfl
theorem MU:(prog.stops==[])=true:=by kernel_rfl
theorem MJ:(Rows.derivationFormatRow.knobs==[])=true:=by kernel_rfl
theorem MK:(prog.stopKnobs==[])=true:=by kernel_rfl
theorem MH:(Rows.derivationFormatRow.inPlace==prog.inPlace 3)=true:=by kernel_rfl
theorem MW:(Rows.derivationFormatRow.unfollowed==prog.unfollowed 3)=true:=by kernel_rfl
theorem MQ:(Rows.derivationFormatRow.recurses==prog.recurses 3)=true:=by kernel_rfl
theorem MO:(Rows.derivationFormatRow.named==prog.varsNamed 3)=true:=by kernel_rfl
theorem Lj:(Rows.derivationFormatRow.maps==(f3.params.toList++Rows.derivationFormatSpec.plain.varTypes prog).any (prog.mapsRec ·))=true:=by kernel_rfl
theorem MG:(Rows.derivationFormatRow.ifaces==(f3.params.toList++Rows.derivationFormatSpec.plain.varTypes prog).any (prog.ifacesRec ·))=true:=by kernel_rfl
theorem Lk:(Rows.derivationFormatRow.mapsOut==prog.mapsAmong f3.resultTypes.toList)=true:=by kernel_rfl
theorem MM:(Rows.derivationFormatRow.loops==(f3.params.toList++Rows.derivationFormatSpec.plain.varTypes prog).any (prog.loopsFrom ·))=true:=by kernel_rfl
theorem Mc:(Rows.derivationFormatRow.wideKeys==(f3.params.toList++Rows.derivationFormatSpec.plain.varTypes prog++f3.resultTypes.toList).any (prog.wideKeysFrom ·))=true:=by kernel_rfl
theorem Ma:(Rows.derivationFormatSpec.vars.all (prog.varReadable ·))=true:=by kernel_rfl
theorem MR:(f3.resultTypes.all (fun t=>prog.readableRec t&&decide (t<prog.types.size)))=true:=by kernel_rfl
theorem MF:(Rows.derivationFormatRow.ifacesOut==f3.resultTypes.toList.any (prog.ifacesRec ·))=true:=by kernel_rfl
theorem LG:(Rows.derivationFormatRow.loopsOut==f3.resultTypes.toList.any (prog.loopsFrom ·))=true:=by kernel_rfl
theorem NM:(Rows.derivationFormatRow.plainKeys==prog.plainKeys)=true:=by kernel_rfl
theorem MS:(Rows.derivationFormatRow.shortTexts.isNone)=true:=by kernel_rfl
theorem ME:(prog.stopsHeard)=true:=by kernel_rfl
theorem MD:(prog.mayEnter)=true:=by kernel_rfl
theorem ML:(Rows.derivationFormatRow.lifted==prog.liftsFinal)=true:=by kernel_rfl
theorem MN:(prog.make==some Rows.derivationFormatRow.make)=true:=by kernel_rfl
theorem MI:(Rows.derivationFormatRow.kinds==(if Rows.derivationFormatRow.domain.isEmpty then[]else f3.params.toList.map fun t=>match prog.underlying t with|some (.int k)=>some k|_=>none))=true:=by kernel_rfl
theorem MP:(Rows.derivationFormatRow.pinned==Rows.derivationFormatRow.pinnedBy)=true:=by kernel_rfl
theorem MZ:(Rows.derivationFormatRow.veiled==(f3.params.toList++Rows.derivationFormatSpec.plain.varTypes prog++f3.resultTypes.toList).any (prog.veiledRec ·))=true:=by kernel_rfl
theorem MY:(Rows.derivationFormatRow.veiledFits prog f3.params.toList (f3.params.toList++Rows.derivationFormatSpec.plain.varTypes prog++f3.resultTypes.toList))=true:=by kernel_rfl
theorem IC:prog.funcNamed Rows.derivationFormatRow.func=some 3:=by kernel_rfl
theorem Ld:joinedFacts prog 3 f3 Rows.derivationFormatSpec Rows.derivationFormatRow=true:=
 Bool.and_eq_true_iff.2 ⟨Bool.and_eq_true_iff.2 ⟨Bool.and_eq_true_iff.2 ⟨Bool.and_eq_true_iff.2 ⟨Bool.and_eq_true_iff.2 ⟨Bool.and_eq_true_iff.2 ⟨Bool.and_eq_true_iff.2 ⟨Bool.and_eq_true_iff.2 ⟨Bool.and_eq_true_iff.2 ⟨Bool.and_eq_true_iff.2 ⟨Bool.and_eq_true_iff.2 ⟨Bool.and_eq_true_iff.2 ⟨Bool.and_eq_true_iff.2 ⟨Bool.and_eq_true_iff.2 ⟨Bool.and_eq_true_iff.2 ⟨Bool.and_eq_true_iff.2 ⟨Bool.and_eq_true_iff.2 ⟨Bool.and_eq_true_iff.2 ⟨Bool.and_eq_true_iff.2 ⟨Bool.and_eq_true_iff.2 ⟨Bool.and_eq_true_iff.2 ⟨Bool.and_eq_true_iff.2 ⟨Bool.and_eq_true_iff.2 ⟨Bool.and_eq_true_iff.2 ⟨Bool.and_eq_true_iff.2 ⟨Bool.and_eq_true_iff.2 ⟨Bool.and_eq_true_iff.2 ⟨Bool.and_eq_true_iff.2 ⟨Bool.and_eq_true_iff.2 ⟨Bool.and_eq_true_iff.2 ⟨Bool.and_eq_true_iff.2 ⟨NO,Lh⟩,LH⟩,NN⟩,MV⟩,MT⟩,MU⟩,MJ⟩,MK⟩,MH⟩,MW⟩,MQ⟩,MO⟩,Lj⟩,MG⟩,Lk⟩,MM⟩,Mc⟩,Ma⟩,MR⟩,MF⟩,LG⟩,NM⟩,MS⟩,ME⟩,MD⟩,ML⟩,MN⟩,MI⟩,MP⟩,MZ⟩,MY⟩
end Go.Proofs.YthhobbgaejimgaaGreatDoor
