/- Lemmas. -/
import Derived.Test.YtlbmpkmkmkgniaaGreatDoorRows
import Derived.JoinedOf
import Derived.JoinedAt
import Derived.Handed
set_option maxRecDepth 100000
namespace Go.Proofs.YtlbmpkmkmkgniaaGreatDoor
open Go Go.Proofs.Tryz
theorem Ra:(Rows.explainPathsRow.wf (OpenSpec.ofChange Rows.explainPathsSpec))=true:=by kernel_rfl
theorem QD:(laidOutB prog)=true:=by kernel_rfl
theorem PX:(mapsRowed prog)=true:=by kernel_rfl
theorem RZ:(f7.params.all (prog.readableRec ·))=true:=by kernel_rfl
theorem Qw:(namedTie prog Rows.explainPathsRow.named Rows.explainPathsSpec.vars)=true:=by kernel_rfl
theorem Qu:(Rows.explainPathsRow.stops==[])=true:=by kernel_rfl
theorem Qv:(prog.stops==[])=true:=by kernel_rfl
theorem Qk:(Rows.explainPathsRow.knobs==[])=true:=by kernel_rfl
theorem Ql:(prog.stopKnobs==[])=true:=by kernel_rfl
theorem Qi:(Rows.explainPathsRow.inPlace==prog.inPlace 7)=true:=by kernel_rfl
theorem Qx:(Rows.explainPathsRow.unfollowed==prog.unfollowed 7)=true:=by kernel_rfl
theorem Qr:(Rows.explainPathsRow.recurses==prog.recurses 7)=true:=by kernel_rfl
theorem Qp:(Rows.explainPathsRow.named==prog.varsNamed 7)=true:=by kernel_rfl
theorem QF:(Rows.explainPathsRow.maps==(f7.params.toList++Rows.explainPathsSpec.plain.varTypes prog).any (prog.mapsRec ·))=true:=by kernel_rfl
theorem Qh:(Rows.explainPathsRow.ifaces==(f7.params.toList++Rows.explainPathsSpec.plain.varTypes prog).any (prog.ifacesRec ·))=true:=by kernel_rfl
theorem QG:(Rows.explainPathsRow.mapsOut==prog.mapsAmong f7.resultTypes.toList)=true:=by kernel_rfl
theorem Qn:(Rows.explainPathsRow.loops==(f7.params.toList++Rows.explainPathsSpec.plain.varTypes prog).any (prog.loopsFrom ·))=true:=by kernel_rfl
theorem Q2:(Rows.explainPathsRow.wideKeys==(f7.params.toList++Rows.explainPathsSpec.plain.varTypes prog++f7.resultTypes.toList).any (prog.wideKeysFrom ·))=true:=by kernel_rfl
theorem Q0:(Rows.explainPathsSpec.vars.all (prog.varReadable ·))=true:=by kernel_rfl
theorem Qs:(f7.resultTypes.all (fun t=>prog.readableRec t&&decide (t<prog.types.size)))=true:=by kernel_rfl
theorem Qg:(Rows.explainPathsRow.ifacesOut==f7.resultTypes.toList.any (prog.ifacesRec ·))=true:=by kernel_rfl
theorem PW:(Rows.explainPathsRow.loopsOut==f7.resultTypes.toList.any (prog.loopsFrom ·))=true:=by kernel_rfl
theorem RY:(Rows.explainPathsRow.plainKeys==prog.plainKeys)=true:=by kernel_rfl
theorem Qt:(Rows.explainPathsRow.shortTexts.isNone)=true:=by kernel_rfl
theorem Qf:(prog.stopsHeard)=true:=by kernel_rfl
theorem Qe:(prog.mayEnter)=true:=by kernel_rfl
theorem Qm:(Rows.explainPathsRow.lifted==prog.liftsFinal)=true:=by kernel_rfl
theorem Qo:(prog.make==some Rows.explainPathsRow.make)=true:=by kernel_rfl
theorem Qj:(Rows.explainPathsRow.kinds==(if Rows.explainPathsRow.domain.isEmpty then [] else f7.params.toList.map fun t=>match prog.underlying t with | some (.int k)=>some k | _=>none))=true:=by kernel_rfl
theorem Qq:(Rows.explainPathsRow.pinned==Rows.explainPathsRow.pinnedBy)=true:=by kernel_rfl
theorem Qz:(Rows.explainPathsRow.veiled==(f7.params.toList++Rows.explainPathsSpec.plain.varTypes prog++f7.resultTypes.toList).any (prog.veiledRec ·))=true:=by kernel_rfl
theorem Qy:(Rows.explainPathsRow.veiledFits prog f7.params.toList (f7.params.toList++Rows.explainPathsSpec.plain.varTypes prog++f7.resultTypes.toList))=true:=by kernel_rfl
theorem Mf:prog.funcNamed Rows.explainPathsRow.func=some 7:=by kernel_rfl
theorem QA:joinedFacts prog 7 f7 Rows.explainPathsSpec Rows.explainPathsRow=true:=
 Bool.and_eq_true_iff.2 ⟨Bool.and_eq_true_iff.2 ⟨Bool.and_eq_true_iff.2 ⟨Bool.and_eq_true_iff.2 ⟨Bool.and_eq_true_iff.2 ⟨Bool.and_eq_true_iff.2 ⟨Bool.and_eq_true_iff.2 ⟨Bool.and_eq_true_iff.2 ⟨Bool.and_eq_true_iff.2 ⟨Bool.and_eq_true_iff.2 ⟨Bool.and_eq_true_iff.2 ⟨Bool.and_eq_true_iff.2 ⟨Bool.and_eq_true_iff.2 ⟨Bool.and_eq_true_iff.2 ⟨Bool.and_eq_true_iff.2 ⟨Bool.and_eq_true_iff.2 ⟨Bool.and_eq_true_iff.2 ⟨Bool.and_eq_true_iff.2 ⟨Bool.and_eq_true_iff.2 ⟨Bool.and_eq_true_iff.2 ⟨Bool.and_eq_true_iff.2 ⟨Bool.and_eq_true_iff.2 ⟨Bool.and_eq_true_iff.2 ⟨Bool.and_eq_true_iff.2 ⟨Bool.and_eq_true_iff.2 ⟨Bool.and_eq_true_iff.2 ⟨Bool.and_eq_true_iff.2 ⟨Bool.and_eq_true_iff.2 ⟨Bool.and_eq_true_iff.2 ⟨Bool.and_eq_true_iff.2 ⟨Bool.and_eq_true_iff.2 ⟨Ra,QD⟩,PX⟩,RZ⟩,Qw⟩,Qu⟩,Qv⟩,Qk⟩,Ql⟩,Qi⟩,Qx⟩,Qr⟩,Qp⟩,QF⟩,Qh⟩,QG⟩,Qn⟩,Q2⟩,Q0⟩,Qs⟩,Qg⟩,PW⟩,RY⟩,Qt⟩,Qf⟩,Qe⟩,Qm⟩,Qo⟩,Qj⟩,Qq⟩,Qz⟩,Qy⟩
end Go.Proofs.YtlbmpkmkmkgniaaGreatDoor
