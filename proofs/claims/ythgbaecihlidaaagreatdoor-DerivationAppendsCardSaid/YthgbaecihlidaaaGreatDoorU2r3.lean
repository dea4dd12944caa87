/- Lemmas. -/
import Derived.Test.YthgbaecihlidaaaGreatDoorRows
import Derived.JoinedOf
import Derived.JoinedAt
import Derived.Handed
set_option linter.all false
set_option maxRecDepth 100000
namespace Go.Proofs.YthgbaecihlidaaaGreatDoor
open Go Go.Proofs.Tryz
theorem RC:(Rows.derivationAppendsRow.wf (OpenSpec.ofChange Rows.derivationAppendsSpec))=true:=by kernel_rfl
theorem Pz:(laidOutB prog)=true:=by kernel_rfl
theorem PJ:(mapsRowed prog)=true:=by kernel_rfl
theorem RB:(f3.params.all (prog.readableRec ·))=true:=by kernel_rfl
theorem Qa:(namedTie prog Rows.derivationAppendsRow.named Rows.derivationAppendsSpec.vars)=true:=by kernel_rfl
theorem QY:(Rows.derivationAppendsRow.stops==[])=true:=by kernel_rfl
theorem QZ:(prog.stops==[])=true:=by kernel_rfl
theorem QN:(Rows.derivationAppendsRow.knobs==[])=true:=by kernel_rfl
theorem QO:(prog.stopKnobs==[])=true:=by kernel_rfl
theorem QL:(Rows.derivationAppendsRow.inPlace==prog.inPlace 3)=true:=by kernel_rfl
theorem Qb:(Rows.derivationAppendsRow.unfollowed==prog.unfollowed 3)=true:=by kernel_rfl
theorem QV:(Rows.derivationAppendsRow.recurses==prog.recurses 3)=true:=by kernel_rfl
theorem QT:(Rows.derivationAppendsRow.named==prog.varsNamed 3)=true:=by kernel_rfl
theorem P1:(Rows.derivationAppendsRow.maps==(f3.params.toList++Rows.derivationAppendsSpec.plain.varTypes prog).any (prog.mapsRec ·))=true:=by kernel_rfl
theorem QK:(Rows.derivationAppendsRow.ifaces==(f3.params.toList++Rows.derivationAppendsSpec.plain.varTypes prog).any (prog.ifacesRec ·))=true:=by kernel_rfl
theorem P2:(Rows.derivationAppendsRow.mapsOut==prog.mapsAmong f3.resultTypes.toList)=true:=by kernel_rfl
theorem QR:(Rows.derivationAppendsRow.loops==(f3.params.toList++Rows.derivationAppendsSpec.plain.varTypes prog).any (prog.loopsFrom ·))=true:=by kernel_rfl
theorem Qg:(Rows.derivationAppendsRow.wideKeys==(f3.params.toList++Rows.derivationAppendsSpec.plain.varTypes prog++f3.resultTypes.toList).any (prog.wideKeysFrom ·))=true:=by kernel_rfl
theorem Qe:(Rows.derivationAppendsSpec.vars.all (prog.varReadable ·))=true:=by kernel_rfl
theorem QW:(f3.resultTypes.all (fun t=>prog.readableRec t&&decide (t<prog.types.size)))=true:=by kernel_rfl
theorem QJ:(Rows.derivationAppendsRow.ifacesOut==f3.resultTypes.toList.any (prog.ifacesRec ·))=true:=by kernel_rfl
theorem PI:(Rows.derivationAppendsRow.loopsOut==f3.resultTypes.toList.any (prog.loopsFrom ·))=true:=by kernel_rfl
theorem RA:(Rows.derivationAppendsRow.plainKeys==prog.plainKeys)=true:=by kernel_rfl
theorem QX:(Rows.derivationAppendsRow.shortTexts.isNone)=true:=by kernel_rfl
theorem QI:(prog.stopsHeard)=true:=by kernel_rfl
theorem QH:(prog.mayEnter)=true:=by kernel_rfl
theorem QP:(Rows.derivationAppendsRow.lifted==prog.liftsFinal)=true:=by kernel_rfl
theorem QS:(prog.make==some Rows.derivationAppendsRow.make)=true:=by kernel_rfl
theorem QM:(Rows.derivationAppendsRow.kinds==(if Rows.derivationAppendsRow.domain.isEmpty then[]else f3.params.toList.map fun t=>match prog.underlying t with|some (.int k)=>some k|_=>none))=true:=by kernel_rfl
theorem QU:(Rows.derivationAppendsRow.pinned==Rows.derivationAppendsRow.pinnedBy)=true:=by kernel_rfl
theorem Qd:(Rows.derivationAppendsRow.veiled==(f3.params.toList++Rows.derivationAppendsSpec.plain.varTypes prog++f3.resultTypes.toList).any (prog.veiledRec ·))=true:=by kernel_rfl
theorem Qc:(Rows.derivationAppendsRow.veiledFits prog f3.params.toList (f3.params.toList++Rows.derivationAppendsSpec.plain.varTypes prog++f3.resultTypes.toList))=true:=by kernel_rfl
theorem Ks:prog.funcNamed Rows.derivationAppendsRow.func=some 3:=by kernel_rfl
theorem Pw:joinedFacts prog 3 f3 Rows.derivationAppendsSpec Rows.derivationAppendsRow=true:=
 Bool.and_eq_true_iff.2 ⟨Bool.and_eq_true_iff.2 ⟨Bool.and_eq_true_iff.2 ⟨Bool.and_eq_true_iff.2 ⟨Bool.and_eq_true_iff.2 ⟨Bool.and_eq_true_iff.2 ⟨Bool.and_eq_true_iff.2 ⟨Bool.and_eq_true_iff.2 ⟨Bool.and_eq_true_iff.2 ⟨Bool.and_eq_true_iff.2 ⟨Bool.and_eq_true_iff.2 ⟨Bool.and_eq_true_iff.2 ⟨Bool.and_eq_true_iff.2 ⟨Bool.and_eq_true_iff.2 ⟨Bool.and_eq_true_iff.2 ⟨Bool.and_eq_true_iff.2 ⟨Bool.and_eq_true_iff.2 ⟨Bool.and_eq_true_iff.2 ⟨Bool.and_eq_true_iff.2 ⟨Bool.and_eq_true_iff.2 ⟨Bool.and_eq_true_iff.2 ⟨Bool.and_eq_true_iff.2 ⟨Bool.and_eq_true_iff.2 ⟨Bool.and_eq_true_iff.2 ⟨Bool.and_eq_true_iff.2 ⟨Bool.and_eq_true_iff.2 ⟨Bool.and_eq_true_iff.2 ⟨Bool.and_eq_true_iff.2 ⟨Bool.and_eq_true_iff.2 ⟨Bool.and_eq_true_iff.2 ⟨Bool.and_eq_true_iff.2 ⟨RC,Pz⟩,PJ⟩,RB⟩,Qa⟩,QY⟩,QZ⟩,QN⟩,QO⟩,QL⟩,Qb⟩,QV⟩,QT⟩,P1⟩,QK⟩,P2⟩,QR⟩,Qg⟩,Qe⟩,QW⟩,QJ⟩,PI⟩,RA⟩,QX⟩,QI⟩,QH⟩,QP⟩,QS⟩,QM⟩,QU⟩,Qd⟩,Qc⟩
end Go.Proofs.YthgbaecihlidaaaGreatDoor
