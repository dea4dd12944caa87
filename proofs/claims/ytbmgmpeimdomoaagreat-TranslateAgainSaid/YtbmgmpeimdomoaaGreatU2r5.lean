/- Lemmas. -/
import Derived.Test.YtbmgmpeimdomoaaGreatRows
import Derived.JoinedOf
import Derived.JoinedAt
import Derived.Handed
set_option linter.all false
set_option maxRecDepth 100000
open Bool renaming true->X
open Bool renaming and_eq_true_iff->w_
namespace Go.Proofs.YtbmgmpeimdomoaaGreat
open Go Go.Proofs.Tryz
theorem XC:(Rows.translateAgainRow.wf (OpenSpec.ofChange Rows.translateAgainSpec))=X:=by kernel_rfl
theorem Uc:(laidOutB prog)=X:=by kernel_rfl
theorem UG:(mapsRowed prog)=X:=by kernel_rfl
theorem XB:(f5.params.all (prog.readableRec ·))=X:=by kernel_rfl
theorem Vz:(namedTie prog Rows.translateAgainRow.named Rows.translateAgainSpec.vars)=X:=by kernel_rfl
theorem Vx:(Rows.translateAgainRow.stops==[])=X:=by kernel_rfl
theorem Vy:(prog.stops==[])=X:=by kernel_rfl
theorem Vn:(Rows.translateAgainRow.knobs==[])=X:=by kernel_rfl
theorem Vo:(prog.stopKnobs==[])=X:=by kernel_rfl
theorem Vl:(Rows.translateAgainRow.inPlace==prog.inPlace 5)=X:=by kernel_rfl
theorem V0:(Rows.translateAgainRow.unfollowed==prog.unfollowed 5)=X:=by kernel_rfl
theorem Vu:(Rows.translateAgainRow.recurses==prog.recurses 5)=X:=by kernel_rfl
theorem Vs:(Rows.translateAgainRow.named==prog.varsNamed 5)=X:=by kernel_rfl
theorem Ud:(Rows.translateAgainRow.maps==(f5.params.toList++Rows.translateAgainSpec.plain.varTypes prog).any (prog.mapsRec ·))=X:=by kernel_rfl
theorem Vk:(Rows.translateAgainRow.ifaces==(f5.params.toList++Rows.translateAgainSpec.plain.varTypes prog).any (prog.ifacesRec ·))=X:=by kernel_rfl
theorem Ue:(Rows.translateAgainRow.mapsOut==prog.mapsAmong f5.resultTypes.toList)=X:=by kernel_rfl
theorem Vq:(Rows.translateAgainRow.loops==(f5.params.toList++Rows.translateAgainSpec.plain.varTypes prog).any (prog.loopsFrom ·))=X:=by kernel_rfl
theorem V4:(Rows.translateAgainRow.wideKeys==(f5.params.toList++Rows.translateAgainSpec.plain.varTypes prog++f5.resultTypes.toList).any (prog.wideKeysFrom ·))=X:=by kernel_rfl
theorem V3:(Rows.translateAgainSpec.vars.all (prog.varReadable ·))=X:=by kernel_rfl
theorem Vv:(f5.resultTypes.all (λt=>prog.readableRec t&&decide (t<prog.types.size)))=X:=by kernel_rfl
theorem Vj:(Rows.translateAgainRow.ifacesOut==f5.resultTypes.toList.any (prog.ifacesRec ·))=X:=by kernel_rfl
theorem UF:(Rows.translateAgainRow.loopsOut==f5.resultTypes.toList.any (prog.loopsFrom ·))=X:=by kernel_rfl
theorem XA:(Rows.translateAgainRow.plainKeys==prog.plainKeys)=X:=by kernel_rfl
theorem Vw:(Rows.translateAgainRow.shortTexts.isNone)=X:=by kernel_rfl
theorem Vi:(prog.stopsHeard)=X:=by kernel_rfl
theorem Vh:(prog.mayEnter)=X:=by kernel_rfl
theorem Vp:(Rows.translateAgainRow.lifted==prog.liftsFinal)=X:=by kernel_rfl
theorem Vr:(prog.make==some Rows.translateAgainRow.make)=X:=by kernel_rfl
theorem Vm:(Rows.translateAgainRow.kinds==(if Rows.translateAgainRow.domain.isEmpty then[]else f5.params.toList.map λt=>match prog.underlying t with|some (.int k)=>some k|_=>none))=X:=by kernel_rfl
theorem Vt:(Rows.translateAgainRow.pinned==Rows.translateAgainRow.pinnedBy)=X:=by kernel_rfl
theorem V2:(Rows.translateAgainRow.veiled==(f5.params.toList++Rows.translateAgainSpec.plain.varTypes prog++f5.resultTypes.toList).any (prog.veiledRec ·))=X:=by kernel_rfl
theorem V1:(Rows.translateAgainRow.veiledFits prog f5.params.toList (f5.params.toList++Rows.translateAgainSpec.plain.varTypes prog++f5.resultTypes.toList))=X:=by kernel_rfl
theorem Ua:prog.funcNamed Rows.translateAgainRow.func=some 5:=by kernel_rfl
theorem UZ:joinedFacts prog 5 f5 Rows.translateAgainSpec Rows.translateAgainRow=X:=
 w_.2 ⟨w_.2 ⟨w_.2 ⟨w_.2 ⟨w_.2 ⟨w_.2 ⟨w_.2 ⟨w_.2 ⟨w_.2 ⟨w_.2 ⟨w_.2 ⟨w_.2 ⟨w_.2 ⟨w_.2 ⟨w_.2 ⟨w_.2 ⟨w_.2 ⟨w_.2 ⟨w_.2 ⟨w_.2 ⟨w_.2 ⟨w_.2 ⟨w_.2 ⟨w_.2 ⟨w_.2 ⟨w_.2 ⟨w_.2 ⟨w_.2 ⟨w_.2 ⟨w_.2 ⟨w_.2 ⟨XC,Uc⟩,UG⟩,XB⟩,Vz⟩,Vx⟩,Vy⟩,Vn⟩,Vo⟩,Vl⟩,V0⟩,Vu⟩,Vs⟩,Ud⟩,Vk⟩,Ue⟩,Vq⟩,V4⟩,V3⟩,Vv⟩,Vj⟩,UF⟩,XA⟩,Vw⟩,Vi⟩,Vh⟩,Vp⟩,Vr⟩,Vm⟩,Vt⟩,V2⟩,V1⟩
end Go.Proofs.YtbmgmpeimdomoaaGreat
