/- Lemmas. -/
import Derived.Test.YthhobbgaejimgaaGreatDoorRows
import Derived.JoinedOf
import Derived.JoinedAt
import Derived.Handed
set_option linter.all false
set_option maxRecDepth 100000
namespace Go.Proofs.YthhobbgaejimgaaGreatDoor
open Go Go.Proofs.Tryz
theorem Ng:(Rows.derivationParseRow.wf (OpenSpec.ofChange Rows.derivationParseSpec))=true:=by kernel_rfl
theorem ME:(laidOutB prog)=true:=by kernel_rfl
theorem Li:(mapsRowed prog)=true:=by kernel_rfl
theorem Nf:(f4.params.all (prog.readableRec ·))=true:=by kernel_rfl
theorem NF:(namedTie prog Rows.derivationParseRow.named Rows.derivationParseSpec.vars)=true:=by kernel_rfl
theorem ND:(Rows.derivationParseRow.stops==[])=true:=by kernel_rfl
theorem NE:(prog.stops==[])=true:=by kernel_rfl
theorem M3:(Rows.derivationParseRow.knobs==[])=true:=by kernel_rfl
theorem M4:(prog.stopKnobs==[])=true:=by kernel_rfl
theorem M1:(Rows.derivationParseRow.inPlace==prog.inPlace 4)=true:=by kernel_rfl
theorem NG:(Rows.derivationParseRow.unfollowed==prog.unfollowed 4)=true:=by kernel_rfl
theorem NA:(Rows.derivationParseRow.recurses==prog.recurses 4)=true:=by kernel_rfl
theorem M8:(Rows.derivationParseRow.named==prog.varsNamed 4)=true:=by kernel_rfl
theorem MG:(Rows.derivationParseRow.maps==(f4.params.toList++Rows.derivationParseSpec.plain.varTypes prog).any (prog.mapsRec ·))=true:=by kernel_rfl
theorem M0:(Rows.derivationParseRow.ifaces==(f4.params.toList++Rows.derivationParseSpec.plain.varTypes prog).any (prog.ifacesRec ·))=true:=by kernel_rfl
theorem MH:(Rows.derivationParseRow.mapsOut==prog.mapsAmong f4.resultTypes.toList)=true:=by kernel_rfl
theorem M6:(Rows.derivationParseRow.loops==(f4.params.toList++Rows.derivationParseSpec.plain.varTypes prog).any (prog.loopsFrom ·))=true:=by kernel_rfl
theorem NO:(Rows.derivationParseRow.wideKeys==(f4.params.toList++Rows.derivationParseSpec.plain.varTypes prog++f4.resultTypes.toList).any (prog.wideKeysFrom ·))=true:=by kernel_rfl
theorem NM:(Rows.derivationParseSpec.vars.all (prog.varReadable ·))=true:=by kernel_rfl
theorem NB:(f4.resultTypes.all (fun t=>prog.readableRec t&&decide (t<prog.types.size)))=true:=by kernel_rfl
theorem Mz:(Rows.derivationParseRow.ifacesOut==f4.resultTypes.toList.any (prog.ifacesRec ·))=true:=by kernel_rfl
theorem Lh:(Rows.derivationParseRow.loopsOut==f4.resultTypes.toList.any (prog.loopsFrom ·))=true:=by kernel_rfl
theorem Nd:(Rows.derivationParseRow.plainKeys==prog.plainKeys)=true:=by kernel_rfl
theorem NC:(Rows.derivationParseRow.shortTexts.isNone)=true:=by kernel_rfl
theorem My:(prog.stopsHeard)=true:=by kernel_rfl
theorem Mx:(prog.mayEnter)=true:=by kernel_rfl
theorem M5:(Rows.derivationParseRow.lifted==prog.liftsFinal)=true:=by kernel_rfl
theorem M7:(prog.make==some Rows.derivationParseRow.make)=true:=by kernel_rfl
theorem M2:(Rows.derivationParseRow.kinds==(if Rows.derivationParseRow.domain.isEmpty then[]else f4.params.toList.map fun t=>match prog.underlying t with|some (.int k)=>some k|_=>none))=true:=by kernel_rfl
theorem M9:(Rows.derivationParseRow.pinned==Rows.derivationParseRow.pinnedBy)=true:=by kernel_rfl
theorem NJ:(Rows.derivationParseRow.veiled==(f4.params.toList++Rows.derivationParseSpec.plain.varTypes prog++f4.resultTypes.toList).any (prog.veiledRec ·))=true:=by kernel_rfl
theorem NI:(Rows.derivationParseRow.veiledFits prog f4.params.toList (f4.params.toList++Rows.derivationParseSpec.plain.varTypes prog++f4.resultTypes.toList))=true:=by kernel_rfl
theorem Ij:prog.funcNamed Rows.derivationParseRow.func=some 4:=by kernel_rfl
theorem MB:joinedFacts prog 4 f4 Rows.derivationParseSpec Rows.derivationParseRow=true:=
 Bool.and_eq_true_iff.2 ⟨Bool.and_eq_true_iff.2 ⟨Bool.and_eq_true_iff.2 ⟨Bool.and_eq_true_iff.2 ⟨Bool.and_eq_true_iff.2 ⟨Bool.and_eq_true_iff.2 ⟨Bool.and_eq_true_iff.2 ⟨Bool.and_eq_true_iff.2 ⟨Bool.and_eq_true_iff.2 ⟨Bool.and_eq_true_iff.2 ⟨Bool.and_eq_true_iff.2 ⟨Bool.and_eq_true_iff.2 ⟨Bool.and_eq_true_iff.2 ⟨Bool.and_eq_true_iff.2 ⟨Bool.and_eq_true_iff.2 ⟨Bool.and_eq_true_iff.2 ⟨Bool.and_eq_true_iff.2 ⟨Bool.and_eq_true_iff.2 ⟨Bool.and_eq_true_iff.2 ⟨Bool.and_eq_true_iff.2 ⟨Bool.and_eq_true_iff.2 ⟨Bool.and_eq_true_iff.2 ⟨Bool.and_eq_true_iff.2 ⟨Bool.and_eq_true_iff.2 ⟨Bool.and_eq_true_iff.2 ⟨Bool.and_eq_true_iff.2 ⟨Bool.and_eq_true_iff.2 ⟨Bool.and_eq_true_iff.2 ⟨Bool.and_eq_true_iff.2 ⟨Bool.and_eq_true_iff.2 ⟨Bool.and_eq_true_iff.2 ⟨Ng,ME⟩,Li⟩,Nf⟩,NF⟩,ND⟩,NE⟩,M3⟩,M4⟩,M1⟩,NG⟩,NA⟩,M8⟩,MG⟩,M0⟩,MH⟩,M6⟩,NO⟩,NM⟩,NB⟩,Mz⟩,Lh⟩,Nd⟩,NC⟩,My⟩,Mx⟩,M5⟩,M7⟩,M2⟩,M9⟩,NJ⟩,NI⟩
end Go.Proofs.YthhobbgaejimgaaGreatDoor
