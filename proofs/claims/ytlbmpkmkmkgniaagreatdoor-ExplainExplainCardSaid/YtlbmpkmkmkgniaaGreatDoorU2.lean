/- Lemmas. -/
import Derived.Test.YtlbmpkmkmkgniaaGreatDoorRows
import Derived.JoinedOf
import Derived.JoinedAt
import Derived.Handed
set_option linter.all false
set_option maxRecDepth 100000
namespace Go.Proofs.YtlbmpkmkmkgniaaGreatDoor
open Go Go.Proofs.Tryz
theorem Sg:(Rows.explainExplainRow.wf (OpenSpec.ofChange Rows.explainExplainSpec))=true:=by kernel_rfl
theorem Q9:(laidOutB prog)=true:=by kernel_rfl
theorem QL:(mapsRowed prog)=true:=by kernel_rfl
theorem Se:(f3.params.all (prog.readableRec ·))=true:=by kernel_rfl
theorem Rs:(namedTie prog Rows.explainExplainRow.named Rows.explainExplainSpec.vars)=true:=by kernel_rfl
theorem Rp:(Rows.explainExplainRow.stops==[])=true:=by kernel_rfl
theorem Rr:(prog.stops==[])=true:=by kernel_rfl
theorem Rd:(Rows.explainExplainRow.knobs==[])=true:=by kernel_rfl
theorem Rf:(prog.stopKnobs==[])=true:=by kernel_rfl
theorem Rb:(Rows.explainExplainRow.inPlace==prog.inPlace 3)=true:=by kernel_rfl
theorem Rt:(Rows.explainExplainRow.unfollowed==prog.unfollowed 3)=true:=by kernel_rfl
theorem Rl:(Rows.explainExplainRow.recurses==prog.recurses 3)=true:=by kernel_rfl
theorem Rj:(Rows.explainExplainRow.named==prog.varsNamed 3)=true:=by kernel_rfl
theorem RB:(Rows.explainExplainRow.maps==(f3.params.toList++Rows.explainExplainSpec.plain.varTypes prog).any (prog.mapsRec ·))=true:=by kernel_rfl
theorem Ra:(Rows.explainExplainRow.ifaces==(f3.params.toList++Rows.explainExplainSpec.plain.varTypes prog).any (prog.ifacesRec ·))=true:=by kernel_rfl
theorem RC:(Rows.explainExplainRow.mapsOut==prog.mapsAmong f3.resultTypes.toList)=true:=by kernel_rfl
theorem Rh:(Rows.explainExplainRow.loops==(f3.params.toList++Rows.explainExplainSpec.plain.varTypes prog).any (prog.loopsFrom ·))=true:=by kernel_rfl
theorem Ry:(Rows.explainExplainRow.wideKeys==(f3.params.toList++Rows.explainExplainSpec.plain.varTypes prog++f3.resultTypes.toList).any (prog.wideKeysFrom ·))=true:=by kernel_rfl
theorem Rw:(Rows.explainExplainSpec.vars.all (prog.varReadable ·))=true:=by kernel_rfl
theorem Rm:(f3.resultTypes.all (fun t=>prog.readableRec t&&decide (t<prog.types.size)))=true:=by kernel_rfl
theorem RZ:(Rows.explainExplainRow.ifacesOut==f3.resultTypes.toList.any (prog.ifacesRec ·))=true:=by kernel_rfl
theorem QK:(Rows.explainExplainRow.loopsOut==f3.resultTypes.toList.any (prog.loopsFrom ·))=true:=by kernel_rfl
theorem Sd:(Rows.explainExplainRow.plainKeys==prog.plainKeys)=true:=by kernel_rfl
theorem Ro:(Rows.explainExplainRow.shortTexts.isNone)=true:=by kernel_rfl
theorem RY:(prog.stopsHeard)=true:=by kernel_rfl
theorem RX:(prog.mayEnter)=true:=by kernel_rfl
theorem Rg:(Rows.explainExplainRow.lifted==prog.liftsFinal)=true:=by kernel_rfl
theorem Ri:(prog.make==some Rows.explainExplainRow.make)=true:=by kernel_rfl
theorem Rc:(Rows.explainExplainRow.kinds==(if Rows.explainExplainRow.domain.isEmpty then [] else f3.params.toList.map fun t=>match prog.underlying t with | some (.int k)=>some k | _=>none))=true:=by kernel_rfl
theorem Rk:(Rows.explainExplainRow.pinned==Rows.explainExplainRow.pinnedBy)=true:=by kernel_rfl
theorem Rv:(Rows.explainExplainRow.veiled==(f3.params.toList++Rows.explainExplainSpec.plain.varTypes prog++f3.resultTypes.toList).any (prog.veiledRec ·))=true:=by kernel_rfl
theorem Ru:(Rows.explainExplainRow.veiledFits prog f3.params.toList (f3.params.toList++Rows.explainExplainSpec.plain.varTypes prog++f3.resultTypes.toList))=true:=by kernel_rfl
theorem NM:prog.funcNamed Rows.explainExplainRow.func=some 3:=by kernel_rfl
theorem Q6:joinedFacts prog 3 f3 Rows.explainExplainSpec Rows.explainExplainRow=true:=
 Bool.and_eq_true_iff.2 ⟨Bool.and_eq_true_iff.2 ⟨Bool.and_eq_true_iff.2 ⟨Bool.and_eq_true_iff.2 ⟨Bool.and_eq_true_iff.2 ⟨Bool.and_eq_true_iff.2 ⟨Bool.and_eq_true_iff.2 ⟨Bool.and_eq_true_iff.2 ⟨Bool.and_eq_true_iff.2 ⟨Bool.and_eq_true_iff.2 ⟨Bool.and_eq_true_iff.2 ⟨Bool.and_eq_true_iff.2 ⟨Bool.and_eq_true_iff.2 ⟨Bool.and_eq_true_iff.2 ⟨Bool.and_eq_true_iff.2 ⟨Bool.and_eq_true_iff.2 ⟨Bool.and_eq_true_iff.2 ⟨Bool.and_eq_true_iff.2 ⟨Bool.and_eq_true_iff.2 ⟨Bool.and_eq_true_iff.2 ⟨Bool.and_eq_true_iff.2 ⟨Bool.and_eq_true_iff.2 ⟨Bool.and_eq_true_iff.2 ⟨Bool.and_eq_true_iff.2 ⟨Bool.and_eq_true_iff.2 ⟨Bool.and_eq_true_iff.2 ⟨Bool.and_eq_true_iff.2 ⟨Bool.and_eq_true_iff.2 ⟨Bool.and_eq_true_iff.2 ⟨Bool.and_eq_true_iff.2 ⟨Bool.and_eq_true_iff.2 ⟨Sg,Q9⟩,QL⟩,Se⟩,Rs⟩,Rp⟩,Rr⟩,Rd⟩,Rf⟩,Rb⟩,Rt⟩,Rl⟩,Rj⟩,RB⟩,Ra⟩,RC⟩,Rh⟩,Ry⟩,Rw⟩,Rm⟩,RZ⟩,QK⟩,Sd⟩,Ro⟩,RY⟩,RX⟩,Rg⟩,Ri⟩,Rc⟩,Rk⟩,Rv⟩,Ru⟩
end Go.Proofs.YtlbmpkmkmkgniaaGreatDoor
