/- Lemmas. -/
import Derived.Test.YtbmogdodchhhlaaGreatRows
import Derived.JoinedOf
import Derived.JoinedAt
import Derived.Handed
set_option linter.all false
set_option maxRecDepth 100000
namespace Go.Proofs.YtbmogdodchhhlaaGreat
open Go Go.Proofs.Tryz
theorem Rp:(Rows.joinCommonRow.wf (OpenSpec.ofChange Rows.joinCommonSpec))=true:=by kernel_rfl
theorem P6:(laidOutB prog)=true:=by kernel_rfl
theorem PF:(mapsRowed prog)=true:=by kernel_rfl
theorem Ro:(f3.params.all (prog.readableRec ·))=true:=by kernel_rfl
theorem Qy:(namedTie prog Rows.joinCommonRow.named Rows.joinCommonSpec.vars)=true:=by kernel_rfl
theorem Qw:(Rows.joinCommonRow.stops==[])=true:=by kernel_rfl
theorem Qx:(prog.stops==[])=true:=by kernel_rfl
theorem Qm:(Rows.joinCommonRow.knobs==[])=true:=by kernel_rfl
theorem Qn:(prog.stopKnobs==[])=true:=by kernel_rfl
theorem Qk:(Rows.joinCommonRow.inPlace==prog.inPlace 3)=true:=by kernel_rfl
theorem Qz:(Rows.joinCommonRow.unfollowed==prog.unfollowed 3)=true:=by kernel_rfl
theorem Qt:(Rows.joinCommonRow.recurses==prog.recurses 3)=true:=by kernel_rfl
theorem Qr:(Rows.joinCommonRow.named==prog.varsNamed 3)=true:=by kernel_rfl
theorem P7:(Rows.joinCommonRow.maps==(f3.params.toList++Rows.joinCommonSpec.plain.varTypes prog).any (prog.mapsRec ·))=true:=by kernel_rfl
theorem Qj:(Rows.joinCommonRow.ifaces==(f3.params.toList++Rows.joinCommonSpec.plain.varTypes prog).any (prog.ifacesRec ·))=true:=by kernel_rfl
theorem P8:(Rows.joinCommonRow.mapsOut==prog.mapsAmong f3.resultTypes.toList)=true:=by kernel_rfl
theorem Qp:(Rows.joinCommonRow.loops==(f3.params.toList++Rows.joinCommonSpec.plain.varTypes prog).any (prog.loopsFrom ·))=true:=by kernel_rfl
theorem Q3:(Rows.joinCommonRow.wideKeys==(f3.params.toList++Rows.joinCommonSpec.plain.varTypes prog++f3.resultTypes.toList).any (prog.wideKeysFrom ·))=true:=by kernel_rfl
theorem Q2:(Rows.joinCommonSpec.vars.all (prog.varReadable ·))=true:=by kernel_rfl
theorem Qu:(f3.resultTypes.all (fun t=>prog.readableRec t&&decide (t<prog.types.size)))=true:=by kernel_rfl
theorem Qi:(Rows.joinCommonRow.ifacesOut==f3.resultTypes.toList.any (prog.ifacesRec ·))=true:=by kernel_rfl
theorem PE:(Rows.joinCommonRow.loopsOut==f3.resultTypes.toList.any (prog.loopsFrom ·))=true:=by kernel_rfl
theorem Rm:(Rows.joinCommonRow.plainKeys==prog.plainKeys)=true:=by kernel_rfl
theorem Qv:(Rows.joinCommonRow.shortTexts.isNone)=true:=by kernel_rfl
theorem Qh:(prog.stopsHeard)=true:=by kernel_rfl
theorem Qg:(prog.mayEnter)=true:=by kernel_rfl
theorem Qo:(Rows.joinCommonRow.lifted==prog.liftsFinal)=true:=by kernel_rfl
theorem Qq:(prog.make==some Rows.joinCommonRow.make)=true:=by kernel_rfl
theorem Ql:(Rows.joinCommonRow.kinds==(if Rows.joinCommonRow.domain.isEmpty then[]else f3.params.toList.map fun t=>match prog.underlying t with|some (.int k)=>some k|_=>none))=true:=by kernel_rfl
theorem Qs:(Rows.joinCommonRow.pinned==Rows.joinCommonRow.pinnedBy)=true:=by kernel_rfl
theorem Q1:(Rows.joinCommonRow.veiled==(f3.params.toList++Rows.joinCommonSpec.plain.varTypes prog++f3.resultTypes.toList).any (prog.veiledRec ·))=true:=by kernel_rfl
theorem Q0:(Rows.joinCommonRow.veiledFits prog f3.params.toList (f3.params.toList++Rows.joinCommonSpec.plain.varTypes prog++f3.resultTypes.toList))=true:=by kernel_rfl
theorem P4:prog.funcNamed Rows.joinCommonRow.func=some 3:=by kernel_rfl
theorem P3:joinedFacts prog 3 f3 Rows.joinCommonSpec Rows.joinCommonRow=true:=
 Bool.and_eq_true_iff.2 ⟨Bool.and_eq_true_iff.2 ⟨Bool.and_eq_true_iff.2 ⟨Bool.and_eq_true_iff.2 ⟨Bool.and_eq_true_iff.2 ⟨Bool.and_eq_true_iff.2 ⟨Bool.and_eq_true_iff.2 ⟨Bool.and_eq_true_iff.2 ⟨Bool.and_eq_true_iff.2 ⟨Bool.and_eq_true_iff.2 ⟨Bool.and_eq_true_iff.2 ⟨Bool.and_eq_true_iff.2 ⟨Bool.and_eq_true_iff.2 ⟨Bool.and_eq_true_iff.2 ⟨Bool.and_eq_true_iff.2 ⟨Bool.and_eq_true_iff.2 ⟨Bool.and_eq_true_iff.2 ⟨Bool.and_eq_true_iff.2 ⟨Bool.and_eq_true_iff.2 ⟨Bool.and_eq_true_iff.2 ⟨Bool.and_eq_true_iff.2 ⟨Bool.and_eq_true_iff.2 ⟨Bool.and_eq_true_iff.2 ⟨Bool.and_eq_true_iff.2 ⟨Bool.and_eq_true_iff.2 ⟨Bool.and_eq_true_iff.2 ⟨Bool.and_eq_true_iff.2 ⟨Bool.and_eq_true_iff.2 ⟨Bool.and_eq_true_iff.2 ⟨Bool.and_eq_true_iff.2 ⟨Bool.and_eq_true_iff.2 ⟨Rp,P6⟩,PF⟩,Ro⟩,Qy⟩,Qw⟩,Qx⟩,Qm⟩,Qn⟩,Qk⟩,Qz⟩,Qt⟩,Qr⟩,P7⟩,Qj⟩,P8⟩,Qp⟩,Q3⟩,Q2⟩,Qu⟩,Qi⟩,PE⟩,Rm⟩,Qv⟩,Qh⟩,Qg⟩,Qo⟩,Qq⟩,Ql⟩,Qs⟩,Q1⟩,Q0⟩
end Go.Proofs.YtbmogdodchhhlaaGreat
