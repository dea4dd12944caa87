/- Lemmas. -/
import Derived.Test.YtlbmpkmkmkgniaaGreatDoorRows
import Derived.JoinedOf
import Derived.JoinedAt
import Derived.Handed
set_option maxRecDepth 100000
namespace Go.Proofs.YtlbmpkmkmkgniaaGreatDoor
open Go Go.Proofs.Tryz
theorem Sh:(Rows.explainExplainRow.wf (OpenSpec.ofChange Rows.explainExplainSpec))=true:=by kernel_rfl
theorem RA:(laidOutB prog)=true:=by kernel_rfl
theorem QM:(mapsRowed prog)=true:=by kernel_rfl
theorem Sg:(f3.params.all (prog.readableRec ·))=true:=by kernel_rfl
theorem Rt:(namedTie prog Rows.explainExplainRow.named Rows.explainExplainSpec.vars)=true:=by kernel_rfl
theorem Rr:(Rows.explainExplainRow.stops==[])=true:=by kernel_rfl
theorem Rs:(prog.stops==[])=true:=by kernel_rfl
theorem Rf:(Rows.explainExplainRow.knobs==[])=true:=by kernel_rfl
theorem Rg:(prog.stopKnobs==[])=true:=by kernel_rfl
theorem Rc:(Rows.explainExplainRow.inPlace==prog.inPlace 3)=true:=by kernel_rfl
theorem Ru:(Rows.explainExplainRow.unfollowed==prog.unfollowed 3)=true:=by kernel_rfl
theorem Rm:(Rows.explainExplainRow.recurses==prog.recurses 3)=true:=by kernel_rfl
theorem Rk:(Rows.explainExplainRow.named==prog.varsNamed 3)=true:=by kernel_rfl
theorem RC:(Rows.explainExplainRow.maps==(f3.params.toList++Rows.explainExplainSpec.plain.varTypes prog).any (prog.mapsRec ·))=true:=by kernel_rfl
theorem Rb:(Rows.explainExplainRow.ifaces==(f3.params.toList++Rows.explainExplainSpec.plain.varTypes prog).any (prog.ifacesRec ·))=true:=by kernel_rfl
theorem RD:(Rows.explainExplainRow.mapsOut==prog.mapsAmong f3.resultTypes.toList)=true:=by kernel_rfl
theorem Ri:(Rows.explainExplainRow.loops==(f3.params.toList++Rows.explainExplainSpec.plain.varTypes prog).any (prog.loopsFrom ·))=true:=by kernel_rfl
theorem Rz:(Rows.explainExplainRow.wideKeys==(f3.params.toList++Rows.explainExplainSpec.plain.varTypes prog++f3.resultTypes.toList).any (prog.wideKeysFrom ·))=true:=by kernel_rfl
theorem Rx:(Rows.explainExplainSpec.vars.all (prog.varReadable ·))=true:=by kernel_rfl
theorem Ro:(f3.resultTypes.all (fun t=>prog.readableRec t&&decide (t<prog.types.size)))=true:=by kernel_rfl
theorem Ra:(Rows.explainExplainRow.ifacesOut==f3.resultTypes.toList.any (prog.ifacesRec ·))=true:=by kernel_rfl
theorem QL:(Rows.explainExplainRow.loopsOut==f3.resultTypes.toList.any (prog.loopsFrom ·))=true:=by kernel_rfl
theorem Se:(Rows.explainExplainRow.plainKeys==prog.plainKeys)=true:=by kernel_rfl
theorem Rp:(Rows.explainExplainRow.shortTexts.isNone)=true:=by kernel_rfl
theorem RZ:(prog.stopsHeard)=true:=by kernel_rfl
theorem RY:(prog.mayEnter)=true:=by kernel_rfl
theorem Rh:(Rows.explainExplainRow.lifted==prog.liftsFinal)=true:=by kernel_rfl
theorem Rj:(prog.make==some Rows.explainExplainRow.make)=true:=by kernel_rfl
theorem Rd:(Rows.explainExplainRow.kinds==(if Rows.explainExplainRow.domain.isEmpty then [] else f3.params.toList.map fun t=>match prog.underlying t with | some (.int k)=>some k | _=>none))=true:=by kernel_rfl
theorem Rl:(Rows.explainExplainRow.pinned==Rows.explainExplainRow.pinnedBy)=true:=by kernel_rfl
theorem Rw:(Rows.explainExplainRow.veiled==(f3.params.toList++Rows.explainExplainSpec.plain.varTypes prog++f3.resultTypes.toList).any (prog.veiledRec ·))=true:=by kernel_rfl
theorem Rv:(Rows.explainExplainRow.veiledFits prog f3.params.toList (f3.params.toList++Rows.explainExplainSpec.plain.varTypes prog++f3.resultTypes.toList))=true:=by kernel_rfl
theorem NN:prog.funcNamed Rows.explainExplainRow.func=some 3:=by kernel_rfl
theorem Q7:joinedFacts prog 3 f3 Rows.explainExplainSpec Rows.explainExplainRow=true:=
 Bool.and_eq_true_iff.2 ⟨Bool.and_eq_true_iff.2 ⟨Bool.and_eq_true_iff.2 ⟨Bool.and_eq_true_iff.2 ⟨Bool.and_eq_true_iff.2 ⟨Bool.and_eq_true_iff.2 ⟨Bool.and_eq_true_iff.2 ⟨Bool.and_eq_true_iff.2 ⟨Bool.and_eq_true_iff.2 ⟨Bool.and_eq_true_iff.2 ⟨Bool.and_eq_true_iff.2 ⟨Bool.and_eq_true_iff.2 ⟨Bool.and_eq_true_iff.2 ⟨Bool.and_eq_true_iff.2 ⟨Bool.and_eq_true_iff.2 ⟨Bool.and_eq_true_iff.2 ⟨Bool.and_eq_true_iff.2 ⟨Bool.and_eq_true_iff.2 ⟨Bool.and_eq_true_iff.2 ⟨Bool.and_eq_true_iff.2 ⟨Bool.and_eq_true_iff.2 ⟨Bool.and_eq_true_iff.2 ⟨Bool.and_eq_true_iff.2 ⟨Bool.and_eq_true_iff.2 ⟨Bool.and_eq_true_iff.2 ⟨Bool.and_eq_true_iff.2 ⟨Bool.and_eq_true_iff.2 ⟨Bool.and_eq_true_iff.2 ⟨Bool.and_eq_true_iff.2 ⟨Bool.and_eq_true_iff.2 ⟨Bool.and_eq_true_iff.2 ⟨Sh,RA⟩,QM⟩,Sg⟩,Rt⟩,Rr⟩,Rs⟩,Rf⟩,Rg⟩,Rc⟩,Ru⟩,Rm⟩,Rk⟩,RC⟩,Rb⟩,RD⟩,Ri⟩,Rz⟩,Rx⟩,Ro⟩,Ra⟩,QL⟩,Se⟩,Rp⟩,RZ⟩,RY⟩,Rh⟩,Rj⟩,Rd⟩,Rl⟩,Rw⟩,Rv⟩
end Go.Proofs.YtlbmpkmkmkgniaaGreatDoor
