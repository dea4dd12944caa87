/- Lemmas. -/
import Derived.Test.YthgbaecihlidaaaGreatDoorRows
import Derived.JoinedOf
import Derived.JoinedAt
import Derived.Handed
set_option linter.all false
set_option maxRecDepth 100000
namespace Go.Proofs.YthgbaecihlidaaaGreatDoor
open Go Go.Proofs.Tryz
theorem RE:(Rows.derivationAppendsRow.wf (OpenSpec.ofChange Rows.derivationAppendsSpec))=true:=by kernel_rfl
theorem P2:(laidOutB prog)=true:=by kernel_rfl
theorem PN:(mapsRowed prog)=true:=by kernel_rfl
theorem RD:(f3.params.all (prog.readableRec ·))=true:=by kernel_rfl
theorem Qc:(namedTie prog Rows.derivationAppendsRow.named Rows.derivationAppendsSpec.vars)=true:=by kernel_rfl
theorem Qa:(Rows.derivationAppendsRow.stops==[])=true:=by kernel_rfl
theorem Qb:(prog.stops==[])=true:=by kernel_rfl
theorem QP:(Rows.derivationAppendsRow.knobs==[])=true:=by kernel_rfl
theorem QR:(prog.stopKnobs==[])=true:=by kernel_rfl
theorem QN:(Rows.derivationAppendsRow.inPlace==prog.inPlace 3)=true:=by kernel_rfl
theorem Qd:(Rows.derivationAppendsRow.unfollowed==prog.unfollowed 3)=true:=by kernel_rfl
theorem QX:(Rows.derivationAppendsRow.recurses==prog.recurses 3)=true:=by kernel_rfl
theorem QV:(Rows.derivationAppendsRow.named==prog.varsNamed 3)=true:=by kernel_rfl
theorem P4:(Rows.derivationAppendsRow.maps==(f3.params.toList++Rows.derivationAppendsSpec.plain.varTypes prog).any (prog.mapsRec ·))=true:=by kernel_rfl
theorem QM:(Rows.derivationAppendsRow.ifaces==(f3.params.toList++Rows.derivationAppendsSpec.plain.varTypes prog).any (prog.ifacesRec ·))=true:=by kernel_rfl
theorem P5:(Rows.derivationAppendsRow.mapsOut==prog.mapsAmong f3.resultTypes.toList)=true:=by kernel_rfl
theorem QT:(Rows.derivationAppendsRow.loops==(f3.params.toList++Rows.derivationAppendsSpec.plain.varTypes prog).any (prog.loopsFrom ·))=true:=by kernel_rfl
theorem Qi:(Rows.derivationAppendsRow.wideKeys==(f3.params.toList++Rows.derivationAppendsSpec.plain.varTypes prog++f3.resultTypes.toList).any (prog.wideKeysFrom ·))=true:=by kernel_rfl
theorem Qg:(Rows.derivationAppendsSpec.vars.all (prog.varReadable ·))=true:=by kernel_rfl
theorem QY:(f3.resultTypes.all (fun t=>prog.readableRec t&&decide (t<prog.types.size)))=true:=by kernel_rfl
theorem QL:(Rows.derivationAppendsRow.ifacesOut==f3.resultTypes.toList.any (prog.ifacesRec ·))=true:=by kernel_rfl
theorem PM:(Rows.derivationAppendsRow.loopsOut==f3.resultTypes.toList.any (prog.loopsFrom ·))=true:=by kernel_rfl
theorem RC:(Rows.derivationAppendsRow.plainKeys==prog.plainKeys)=true:=by kernel_rfl
theorem QZ:(Rows.derivationAppendsRow.shortTexts.isNone)=true:=by kernel_rfl
theorem QK:(prog.stopsHeard)=true:=by kernel_rfl
theorem QJ:(prog.mayEnter)=true:=by kernel_rfl
theorem QS:(Rows.derivationAppendsRow.lifted==prog.liftsFinal)=true:=by kernel_rfl
theorem QU:(prog.make==some Rows.derivationAppendsRow.make)=true:=by kernel_rfl
theorem QO:(Rows.derivationAppendsRow.kinds==(if Rows.derivationAppendsRow.domain.isEmpty then[]else f3.params.toList.map fun t=>match prog.underlying t with|some (.int k)=>some k|_=>none))=true:=by kernel_rfl
theorem QW:(Rows.derivationAppendsRow.pinned==Rows.derivationAppendsRow.pinnedBy)=true:=by kernel_rfl
theorem Qf:(Rows.derivationAppendsRow.veiled==(f3.params.toList++Rows.derivationAppendsSpec.plain.varTypes prog++f3.resultTypes.toList).any (prog.veiledRec ·))=true:=by kernel_rfl
theorem Qe:(Rows.derivationAppendsRow.veiledFits prog f3.params.toList (f3.params.toList++Rows.derivationAppendsSpec.plain.varTypes prog++f3.resultTypes.toList))=true:=by kernel_rfl
theorem Kt:prog.funcNamed Rows.derivationAppendsRow.func=some 3:=by kernel_rfl
theorem Pz:joinedFacts prog 3 f3 Rows.derivationAppendsSpec Rows.derivationAppendsRow=true:=
 Bool.and_eq_true_iff.2 ⟨Bool.and_eq_true_iff.2 ⟨Bool.and_eq_true_iff.2 ⟨Bool.and_eq_true_iff.2 ⟨Bool.and_eq_true_iff.2 ⟨Bool.and_eq_true_iff.2 ⟨Bool.and_eq_true_iff.2 ⟨Bool.and_eq_true_iff.2 ⟨Bool.and_eq_true_iff.2 ⟨Bool.and_eq_true_iff.2 ⟨Bool.and_eq_true_iff.2 ⟨Bool.and_eq_true_iff.2 ⟨Bool.and_eq_true_iff.2 ⟨Bool.and_eq_true_iff.2 ⟨Bool.and_eq_true_iff.2 ⟨Bool.and_eq_true_iff.2 ⟨Bool.and_eq_true_iff.2 ⟨Bool.and_eq_true_iff.2 ⟨Bool.and_eq_true_iff.2 ⟨Bool.and_eq_true_iff.2 ⟨Bool.and_eq_true_iff.2 ⟨Bool.and_eq_true_iff.2 ⟨Bool.and_eq_true_iff.2 ⟨Bool.and_eq_true_iff.2 ⟨Bool.and_eq_true_iff.2 ⟨Bool.and_eq_true_iff.2 ⟨Bool.and_eq_true_iff.2 ⟨Bool.and_eq_true_iff.2 ⟨Bool.and_eq_true_iff.2 ⟨Bool.and_eq_true_iff.2 ⟨Bool.and_eq_true_iff.2 ⟨RE,P2⟩,PN⟩,RD⟩,Qc⟩,Qa⟩,Qb⟩,QP⟩,QR⟩,QN⟩,Qd⟩,QX⟩,QV⟩,P4⟩,QM⟩,P5⟩,QT⟩,Qi⟩,Qg⟩,QY⟩,QL⟩,PM⟩,RC⟩,QZ⟩,QK⟩,QJ⟩,QS⟩,QU⟩,QO⟩,QW⟩,Qf⟩,Qe⟩
end Go.Proofs.YthgbaecihlidaaaGreatDoor
