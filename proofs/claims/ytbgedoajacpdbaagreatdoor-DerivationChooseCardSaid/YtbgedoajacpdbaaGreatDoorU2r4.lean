/- Lemmas. -/
import Derived.Test.YtbgedoajacpdbaaGreatDoorRows
import Derived.JoinedOf
import Derived.JoinedAt
import Derived.Handed
set_option linter.all false
set_option maxRecDepth 100000
namespace Go.Proofs.YtbgedoajacpdbaaGreatDoor
open Go Go.Proofs.Tryz
theorem RX:(Rows.derivationChooseRow.wf (OpenSpec.ofChange Rows.derivationChooseSpec))=true:=by kernel_rfl
theorem Pv:(laidOutB prog)=true:=by kernel_rfl
theorem Ph:(mapsRowed prog)=true:=by kernel_rfl
theorem RW:(f4.params.all (prog.readableRec ·))=true:=by kernel_rfl
theorem Ql:(namedTie prog Rows.derivationChooseRow.named Rows.derivationChooseSpec.vars)=true:=by kernel_rfl
theorem Qj:(Rows.derivationChooseRow.stops==[])=true:=by kernel_rfl
theorem Qk:(prog.stops==[])=true:=by kernel_rfl
theorem QZ:(Rows.derivationChooseRow.knobs==[])=true:=by kernel_rfl
theorem Qa:(prog.stopKnobs==[])=true:=by kernel_rfl
theorem QX:(Rows.derivationChooseRow.inPlace==prog.inPlace 4)=true:=by kernel_rfl
theorem Qm:(Rows.derivationChooseRow.unfollowed==prog.unfollowed 4)=true:=by kernel_rfl
theorem Qg:(Rows.derivationChooseRow.recurses==prog.recurses 4)=true:=by kernel_rfl
theorem Qe:(Rows.derivationChooseRow.named==prog.varsNamed 4)=true:=by kernel_rfl
theorem Px:(Rows.derivationChooseRow.maps==(f4.params.toList++Rows.derivationChooseSpec.plain.varTypes prog).any (prog.mapsRec ·))=true:=by kernel_rfl
theorem QW:(Rows.derivationChooseRow.ifaces==(f4.params.toList++Rows.derivationChooseSpec.plain.varTypes prog).any (prog.ifacesRec ·))=true:=by kernel_rfl
theorem Py:(Rows.derivationChooseRow.mapsOut==prog.mapsAmong f4.resultTypes.toList)=true:=by kernel_rfl
theorem Qc:(Rows.derivationChooseRow.loops==(f4.params.toList++Rows.derivationChooseSpec.plain.varTypes prog).any (prog.loopsFrom ·))=true:=by kernel_rfl
theorem Qr:(Rows.derivationChooseRow.wideKeys==(f4.params.toList++Rows.derivationChooseSpec.plain.varTypes prog++f4.resultTypes.toList).any (prog.wideKeysFrom ·))=true:=by kernel_rfl
theorem Qp:(Rows.derivationChooseSpec.vars.all (prog.varReadable ·))=true:=by kernel_rfl
theorem Qh:(f4.resultTypes.all (fun t=>prog.readableRec t&&decide (t<prog.types.size)))=true:=by kernel_rfl
theorem QV:(Rows.derivationChooseRow.ifacesOut==f4.resultTypes.toList.any (prog.ifacesRec ·))=true:=by kernel_rfl
theorem Pg:(Rows.derivationChooseRow.loopsOut==f4.resultTypes.toList.any (prog.loopsFrom ·))=true:=by kernel_rfl
theorem RU:(Rows.derivationChooseRow.plainKeys==prog.plainKeys)=true:=by kernel_rfl
theorem Qi:(Rows.derivationChooseRow.shortTexts.isNone)=true:=by kernel_rfl
theorem QU:(prog.stopsHeard)=true:=by kernel_rfl
theorem QT:(prog.mayEnter)=true:=by kernel_rfl
theorem Qb:(Rows.derivationChooseRow.lifted==prog.liftsFinal)=true:=by kernel_rfl
theorem Qd:(prog.make==some Rows.derivationChooseRow.make)=true:=by kernel_rfl
theorem QY:(Rows.derivationChooseRow.kinds==(if Rows.derivationChooseRow.domain.isEmpty then[]else f4.params.toList.map fun t=>match prog.underlying t with|some (.int k)=>some k|_=>none))=true:=by kernel_rfl
theorem Qf:(Rows.derivationChooseRow.pinned==Rows.derivationChooseRow.pinnedBy)=true:=by kernel_rfl
theorem Qo:(Rows.derivationChooseRow.veiled==(f4.params.toList++Rows.derivationChooseSpec.plain.varTypes prog++f4.resultTypes.toList).any (prog.veiledRec ·))=true:=by kernel_rfl
theorem Qn:(Rows.derivationChooseRow.veiledFits prog f4.params.toList (f4.params.toList++Rows.derivationChooseSpec.plain.varTypes prog++f4.resultTypes.toList))=true:=by kernel_rfl
theorem LX:prog.funcNamed Rows.derivationChooseRow.func=some 4:=by kernel_rfl
theorem Ps:joinedFacts prog 4 f4 Rows.derivationChooseSpec Rows.derivationChooseRow=true:=
 Bool.and_eq_true_iff.2 ⟨Bool.and_eq_true_iff.2 ⟨Bool.and_eq_true_iff.2 ⟨Bool.and_eq_true_iff.2 ⟨Bool.and_eq_true_iff.2 ⟨Bool.and_eq_true_iff.2 ⟨Bool.and_eq_true_iff.2 ⟨Bool.and_eq_true_iff.2 ⟨Bool.and_eq_true_iff.2 ⟨Bool.and_eq_true_iff.2 ⟨Bool.and_eq_true_iff.2 ⟨Bool.and_eq_true_iff.2 ⟨Bool.and_eq_true_iff.2 ⟨Bool.and_eq_true_iff.2 ⟨Bool.and_eq_true_iff.2 ⟨Bool.and_eq_true_iff.2 ⟨Bool.and_eq_true_iff.2 ⟨Bool.and_eq_true_iff.2 ⟨Bool.and_eq_true_iff.2 ⟨Bool.and_eq_true_iff.2 ⟨Bool.and_eq_true_iff.2 ⟨Bool.and_eq_true_iff.2 ⟨Bool.and_eq_true_iff.2 ⟨Bool.and_eq_true_iff.2 ⟨Bool.and_eq_true_iff.2 ⟨Bool.and_eq_true_iff.2 ⟨Bool.and_eq_true_iff.2 ⟨Bool.and_eq_true_iff.2 ⟨Bool.and_eq_true_iff.2 ⟨Bool.and_eq_true_iff.2 ⟨Bool.and_eq_true_iff.2 ⟨RX,Pv⟩,Ph⟩,RW⟩,Ql⟩,Qj⟩,Qk⟩,QZ⟩,Qa⟩,QX⟩,Qm⟩,Qg⟩,Qe⟩,Px⟩,QW⟩,Py⟩,Qc⟩,Qr⟩,Qp⟩,Qh⟩,QV⟩,Pg⟩,RU⟩,Qi⟩,QU⟩,QT⟩,Qb⟩,Qd⟩,QY⟩,Qf⟩,Qo⟩,Qn⟩
end Go.Proofs.YtbgedoajacpdbaaGreatDoor
