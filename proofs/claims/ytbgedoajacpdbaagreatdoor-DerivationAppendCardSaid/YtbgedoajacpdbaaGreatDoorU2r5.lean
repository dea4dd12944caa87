/- Lemmas. -/
import Derived.Test.YtbgedoajacpdbaaGreatDoorRows
import Derived.JoinedOf
import Derived.JoinedAt
import Derived.Handed
set_option linter.all false
set_option maxRecDepth 100000
namespace Go.Proofs.YtbgedoajacpdbaaGreatDoor
open Go Go.Proofs.Tryz
theorem Rc:(Rows.derivationAppendRow.wf (OpenSpec.ofChange Rows.derivationAppendSpec))=true:=by kernel_rfl
theorem Px:(laidOutB prog)=true:=by kernel_rfl
theorem Pg:(mapsRowed prog)=true:=by kernel_rfl
theorem Rb:(f5.params.all (prog.readableRec ·))=true:=by kernel_rfl
theorem Qo:(namedTie prog Rows.derivationAppendRow.named Rows.derivationAppendSpec.vars)=true:=by kernel_rfl
theorem Qm:(Rows.derivationAppendRow.stops==[])=true:=by kernel_rfl
theorem Qn:(prog.stops==[])=true:=by kernel_rfl
theorem Qc:(Rows.derivationAppendRow.knobs==[])=true:=by kernel_rfl
theorem Qd:(prog.stopKnobs==[])=true:=by kernel_rfl
theorem Qa:(Rows.derivationAppendRow.inPlace==prog.inPlace 5)=true:=by kernel_rfl
theorem Qp:(Rows.derivationAppendRow.unfollowed==prog.unfollowed 5)=true:=by kernel_rfl
theorem Qj:(Rows.derivationAppendRow.recurses==prog.recurses 5)=true:=by kernel_rfl
theorem Qh:(Rows.derivationAppendRow.named==prog.varsNamed 5)=true:=by kernel_rfl
theorem Pz:(Rows.derivationAppendRow.maps==(f5.params.toList++Rows.derivationAppendSpec.plain.varTypes prog).any (prog.mapsRec ·))=true:=by kernel_rfl
theorem QZ:(Rows.derivationAppendRow.ifaces==(f5.params.toList++Rows.derivationAppendSpec.plain.varTypes prog).any (prog.ifacesRec ·))=true:=by kernel_rfl
theorem P0:(Rows.derivationAppendRow.mapsOut==prog.mapsAmong f5.resultTypes.toList)=true:=by kernel_rfl
theorem Qf:(Rows.derivationAppendRow.loops==(f5.params.toList++Rows.derivationAppendSpec.plain.varTypes prog).any (prog.loopsFrom ·))=true:=by kernel_rfl
theorem Qu:(Rows.derivationAppendRow.wideKeys==(f5.params.toList++Rows.derivationAppendSpec.plain.varTypes prog++f5.resultTypes.toList).any (prog.wideKeysFrom ·))=true:=by kernel_rfl
theorem Qs:(Rows.derivationAppendSpec.vars.all (prog.varReadable ·))=true:=by kernel_rfl
theorem Qk:(f5.resultTypes.all (fun t=>prog.readableRec t&&decide (t<prog.types.size)))=true:=by kernel_rfl
theorem QY:(Rows.derivationAppendRow.ifacesOut==f5.resultTypes.toList.any (prog.ifacesRec ·))=true:=by kernel_rfl
theorem Pf:(Rows.derivationAppendRow.loopsOut==f5.resultTypes.toList.any (prog.loopsFrom ·))=true:=by kernel_rfl
theorem Ra:(Rows.derivationAppendRow.plainKeys==prog.plainKeys)=true:=by kernel_rfl
theorem Ql:(Rows.derivationAppendRow.shortTexts.isNone)=true:=by kernel_rfl
theorem QX:(prog.stopsHeard)=true:=by kernel_rfl
theorem QW:(prog.mayEnter)=true:=by kernel_rfl
theorem Qe:(Rows.derivationAppendRow.lifted==prog.liftsFinal)=true:=by kernel_rfl
theorem Qg:(prog.make==some Rows.derivationAppendRow.make)=true:=by kernel_rfl
theorem Qb:(Rows.derivationAppendRow.kinds==(if Rows.derivationAppendRow.domain.isEmpty then[]else f5.params.toList.map fun t=>match prog.underlying t with|some (.int k)=>some k|_=>none))=true:=by kernel_rfl
theorem Qi:(Rows.derivationAppendRow.pinned==Rows.derivationAppendRow.pinnedBy)=true:=by kernel_rfl
theorem Qr:(Rows.derivationAppendRow.veiled==(f5.params.toList++Rows.derivationAppendSpec.plain.varTypes prog++f5.resultTypes.toList).any (prog.veiledRec ·))=true:=by kernel_rfl
theorem Qq:(Rows.derivationAppendRow.veiledFits prog f5.params.toList (f5.params.toList++Rows.derivationAppendSpec.plain.varTypes prog++f5.resultTypes.toList))=true:=by kernel_rfl
theorem LV:prog.funcNamed Rows.derivationAppendRow.func=some 5:=by kernel_rfl
theorem Pu:joinedFacts prog 5 f5 Rows.derivationAppendSpec Rows.derivationAppendRow=true:=
 Bool.and_eq_true_iff.2 ⟨Bool.and_eq_true_iff.2 ⟨Bool.and_eq_true_iff.2 ⟨Bool.and_eq_true_iff.2 ⟨Bool.and_eq_true_iff.2 ⟨Bool.and_eq_true_iff.2 ⟨Bool.and_eq_true_iff.2 ⟨Bool.and_eq_true_iff.2 ⟨Bool.and_eq_true_iff.2 ⟨Bool.and_eq_true_iff.2 ⟨Bool.and_eq_true_iff.2 ⟨Bool.and_eq_true_iff.2 ⟨Bool.and_eq_true_iff.2 ⟨Bool.and_eq_true_iff.2 ⟨Bool.and_eq_true_iff.2 ⟨Bool.and_eq_true_iff.2 ⟨Bool.and_eq_true_iff.2 ⟨Bool.and_eq_true_iff.2 ⟨Bool.and_eq_true_iff.2 ⟨Bool.and_eq_true_iff.2 ⟨Bool.and_eq_true_iff.2 ⟨Bool.and_eq_true_iff.2 ⟨Bool.and_eq_true_iff.2 ⟨Bool.and_eq_true_iff.2 ⟨Bool.and_eq_true_iff.2 ⟨Bool.and_eq_true_iff.2 ⟨Bool.and_eq_true_iff.2 ⟨Bool.and_eq_true_iff.2 ⟨Bool.and_eq_true_iff.2 ⟨Bool.and_eq_true_iff.2 ⟨Bool.and_eq_true_iff.2 ⟨Rc,Px⟩,Pg⟩,Rb⟩,Qo⟩,Qm⟩,Qn⟩,Qc⟩,Qd⟩,Qa⟩,Qp⟩,Qj⟩,Qh⟩,Pz⟩,QZ⟩,P0⟩,Qf⟩,Qu⟩,Qs⟩,Qk⟩,QY⟩,Pf⟩,Ra⟩,Ql⟩,QX⟩,QW⟩,Qe⟩,Qg⟩,Qb⟩,Qi⟩,Qr⟩,Qq⟩
end Go.Proofs.YtbgedoajacpdbaaGreatDoor
