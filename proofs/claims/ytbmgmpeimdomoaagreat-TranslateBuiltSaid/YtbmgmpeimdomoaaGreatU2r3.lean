/- Lemmas. -/
import Derived.Test.YtbmgmpeimdomoaaGreatRows
import Derived.JoinedOf
import Derived.JoinedAt
import Derived.Handed
set_option linter.all false
set_option maxRecDepth 100000
open Bool renaming true->X
open Bool renaming and_eq_true_iff->w!
namespace Go.Proofs.YtbmgmpeimdomoaaGreat
open Go Go.Proofs.Tryz
theorem V5:(Rows.translateBuiltRow.wf (OpenSpec.ofChange Rows.translateBuiltSpec))=X:=by kernel_rfl
theorem UD:(laidOutB prog)=X:=by kernel_rfl
theorem Tr:(mapsRowed prog)=X:=by kernel_rfl
theorem V4:(f3.params.all (prog.readableRec ·))=X:=by kernel_rfl
theorem VP:(namedTie prog Rows.translateBuiltRow.named Rows.translateBuiltSpec.vars)=X:=by kernel_rfl
theorem VN:(Rows.translateBuiltRow.stops==[])=X:=by kernel_rfl
theorem VO:(prog.stops==[])=X:=by kernel_rfl
theorem VC:(Rows.translateBuiltRow.knobs==[])=X:=by kernel_rfl
theorem VD:(prog.stopKnobs==[])=X:=by kernel_rfl
theorem VA:(Rows.translateBuiltRow.inPlace==prog.inPlace 3)=X:=by kernel_rfl
theorem VQ:(Rows.translateBuiltRow.unfollowed==prog.unfollowed 3)=X:=by kernel_rfl
theorem VK:(Rows.translateBuiltRow.recurses==prog.recurses 3)=X:=by kernel_rfl
theorem VH:(Rows.translateBuiltRow.named==prog.varsNamed 3)=X:=by kernel_rfl
theorem UE:(Rows.translateBuiltRow.maps==(f3.params.toList++Rows.translateBuiltSpec.plain.varTypes prog).any (prog.mapsRec ·))=X:=by kernel_rfl
theorem U9:(Rows.translateBuiltRow.ifaces==(f3.params.toList++Rows.translateBuiltSpec.plain.varTypes prog).any (prog.ifacesRec ·))=X:=by kernel_rfl
theorem UF:(Rows.translateBuiltRow.mapsOut==prog.mapsAmong f3.resultTypes.toList)=X:=by kernel_rfl
theorem VF:(Rows.translateBuiltRow.loops==(f3.params.toList++Rows.translateBuiltSpec.plain.varTypes prog).any (prog.loopsFrom ·))=X:=by kernel_rfl
theorem VU:(Rows.translateBuiltRow.wideKeys==(f3.params.toList++Rows.translateBuiltSpec.plain.varTypes prog++f3.resultTypes.toList).any (prog.wideKeysFrom ·))=X:=by kernel_rfl
theorem VT:(Rows.translateBuiltSpec.vars.all (prog.varReadable ·))=X:=by kernel_rfl
theorem VL:(f3.resultTypes.all (λt=>prog.readableRec t&&decide (t<prog.types.size)))=X:=by kernel_rfl
theorem U8:(Rows.translateBuiltRow.ifacesOut==f3.resultTypes.toList.any (prog.ifacesRec ·))=X:=by kernel_rfl
theorem Tq:(Rows.translateBuiltRow.loopsOut==f3.resultTypes.toList.any (prog.loopsFrom ·))=X:=by kernel_rfl
theorem V3:(Rows.translateBuiltRow.plainKeys==prog.plainKeys)=X:=by kernel_rfl
theorem VM:(Rows.translateBuiltRow.shortTexts.isNone)=X:=by kernel_rfl
theorem U7:(prog.stopsHeard)=X:=by kernel_rfl
theorem U6:(prog.mayEnter)=X:=by kernel_rfl
theorem VE:(Rows.translateBuiltRow.lifted==prog.liftsFinal)=X:=by kernel_rfl
theorem VG:(prog.make==some Rows.translateBuiltRow.make)=X:=by kernel_rfl
theorem VB:(Rows.translateBuiltRow.kinds==(if Rows.translateBuiltRow.domain.isEmpty then[]else f3.params.toList.map λt=>match prog.underlying t with|some (.int k)=>some k|_=>none))=X:=by kernel_rfl
theorem VJ:(Rows.translateBuiltRow.pinned==Rows.translateBuiltRow.pinnedBy)=X:=by kernel_rfl
theorem VS:(Rows.translateBuiltRow.veiled==(f3.params.toList++Rows.translateBuiltSpec.plain.varTypes prog++f3.resultTypes.toList).any (prog.veiledRec ·))=X:=by kernel_rfl
theorem VR:(Rows.translateBuiltRow.veiledFits prog f3.params.toList (f3.params.toList++Rows.translateBuiltSpec.plain.varTypes prog++f3.resultTypes.toList))=X:=by kernel_rfl
theorem UB:prog.funcNamed Rows.translateBuiltRow.func=some 3:=by kernel_rfl
theorem UA:joinedFacts prog 3 f3 Rows.translateBuiltSpec Rows.translateBuiltRow=X:=
 w!.2 ⟨w!.2 ⟨w!.2 ⟨w!.2 ⟨w!.2 ⟨w!.2 ⟨w!.2 ⟨w!.2 ⟨w!.2 ⟨w!.2 ⟨w!.2 ⟨w!.2 ⟨w!.2 ⟨w!.2 ⟨w!.2 ⟨w!.2 ⟨w!.2 ⟨w!.2 ⟨w!.2 ⟨w!.2 ⟨w!.2 ⟨w!.2 ⟨w!.2 ⟨w!.2 ⟨w!.2 ⟨w!.2 ⟨w!.2 ⟨w!.2 ⟨w!.2 ⟨w!.2 ⟨w!.2 ⟨V5,UD⟩,Tr⟩,V4⟩,VP⟩,VN⟩,VO⟩,VC⟩,VD⟩,VA⟩,VQ⟩,VK⟩,VH⟩,UE⟩,U9⟩,UF⟩,VF⟩,VU⟩,VT⟩,VL⟩,U8⟩,Tq⟩,V3⟩,VM⟩,U7⟩,U6⟩,VE⟩,VG⟩,VB⟩,VJ⟩,VS⟩,VR⟩
end Go.Proofs.YtbmgmpeimdomoaaGreat
