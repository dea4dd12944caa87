/- Lemmas. -/
import Derived.Test.YtfcfkigfmofniaaGreatRows
import Derived.JoinedOf
import Derived.JoinedAt
import Derived.Handed
set_option linter.all false
set_option maxRecDepth 100000
open Bool renaming true->X
open Bool renaming and_eq_true_iff->u!
namespace Go.Proofs.YtfcfkigfmofniaaGreat
open Go Go.Proofs.Tryz
theorem Uk:(Rows.transactionBackRow.wf (OpenSpec.ofChange Rows.transactionBackSpec))=X:=by kernel_rfl
theorem S5:(laidOutB prog)=X:=by kernel_rfl
theorem SB:(mapsRowed prog)=X:=by kernel_rfl
theorem Uj:(f3.params.all (prog.readableRec ·))=X:=by kernel_rfl
theorem Te:(namedTie prog Rows.transactionBackRow.named Rows.transactionBackSpec.vars)=X:=by kernel_rfl
theorem Tc:(Rows.transactionBackRow.stops==[])=X:=by kernel_rfl
theorem Td:(prog.stops==[])=X:=by kernel_rfl
theorem TR:(Rows.transactionBackRow.knobs==[])=X:=by kernel_rfl
theorem TS:(prog.stopKnobs==[])=X:=by kernel_rfl
theorem TP:(Rows.transactionBackRow.inPlace==prog.inPlace 3)=X:=by kernel_rfl
theorem Tf:(Rows.transactionBackRow.unfollowed==prog.unfollowed 3)=X:=by kernel_rfl
theorem TZ:(Rows.transactionBackRow.recurses==prog.recurses 3)=X:=by kernel_rfl
theorem TX:(Rows.transactionBackRow.named==prog.varsNamed 3)=X:=by kernel_rfl
theorem S6:(Rows.transactionBackRow.maps==(f3.params.toList++Rows.transactionBackSpec.plain.varTypes prog).any (prog.mapsRec ·))=X:=by kernel_rfl
theorem TO:(Rows.transactionBackRow.ifaces==(f3.params.toList++Rows.transactionBackSpec.plain.varTypes prog).any (prog.ifacesRec ·))=X:=by kernel_rfl
theorem S7:(Rows.transactionBackRow.mapsOut==prog.mapsAmong f3.resultTypes.toList)=X:=by kernel_rfl
theorem TU:(Rows.transactionBackRow.loops==(f3.params.toList++Rows.transactionBackSpec.plain.varTypes prog).any (prog.loopsFrom ·))=X:=by kernel_rfl
theorem Tj:(Rows.transactionBackRow.wideKeys==(f3.params.toList++Rows.transactionBackSpec.plain.varTypes prog++f3.resultTypes.toList).any (prog.wideKeysFrom ·))=X:=by kernel_rfl
theorem Ti:(Rows.transactionBackSpec.vars.all (prog.varReadable ·))=X:=by kernel_rfl
theorem Ta:(f3.resultTypes.all (λt=>prog.readableRec t&&decide (t<prog.types.size)))=X:=by kernel_rfl
theorem TN:(Rows.transactionBackRow.ifacesOut==f3.resultTypes.toList.any (prog.ifacesRec ·))=X:=by kernel_rfl
theorem SA:(Rows.transactionBackRow.loopsOut==f3.resultTypes.toList.any (prog.loopsFrom ·))=X:=by kernel_rfl
theorem Ui:(Rows.transactionBackRow.plainKeys==prog.plainKeys)=X:=by kernel_rfl
theorem Tb:(Rows.transactionBackRow.shortTexts.isNone)=X:=by kernel_rfl
theorem TM:(prog.stopsHeard)=X:=by kernel_rfl
theorem TL:(prog.mayEnter)=X:=by kernel_rfl
theorem TT:(Rows.transactionBackRow.lifted==prog.liftsFinal)=X:=by kernel_rfl
theorem TW:(prog.make==some Rows.transactionBackRow.make)=X:=by kernel_rfl
theorem TQ:(Rows.transactionBackRow.kinds==(if Rows.transactionBackRow.domain.isEmpty then[]else f3.params.toList.map λt=>match prog.underlying t with|some (.int k)=>some k|_=>none))=X:=by kernel_rfl
theorem TY:(Rows.transactionBackRow.pinned==Rows.transactionBackRow.pinnedBy)=X:=by kernel_rfl
theorem Th:(Rows.transactionBackRow.veiled==(f3.params.toList++Rows.transactionBackSpec.plain.varTypes prog++f3.resultTypes.toList).any (prog.veiledRec ·))=X:=by kernel_rfl
theorem Tg:(Rows.transactionBackRow.veiledFits prog f3.params.toList (f3.params.toList++Rows.transactionBackSpec.plain.varTypes prog++f3.resultTypes.toList))=X:=by kernel_rfl
theorem S3:prog.funcNamed Rows.transactionBackRow.func=some 3:=by kernel_rfl
theorem S2:joinedFacts prog 3 f3 Rows.transactionBackSpec Rows.transactionBackRow=X:=
 u!.2 ⟨u!.2 ⟨u!.2 ⟨u!.2 ⟨u!.2 ⟨u!.2 ⟨u!.2 ⟨u!.2 ⟨u!.2 ⟨u!.2 ⟨u!.2 ⟨u!.2 ⟨u!.2 ⟨u!.2 ⟨u!.2 ⟨u!.2 ⟨u!.2 ⟨u!.2 ⟨u!.2 ⟨u!.2 ⟨u!.2 ⟨u!.2 ⟨u!.2 ⟨u!.2 ⟨u!.2 ⟨u!.2 ⟨u!.2 ⟨u!.2 ⟨u!.2 ⟨u!.2 ⟨u!.2 ⟨Uk,S5⟩,SB⟩,Uj⟩,Te⟩,Tc⟩,Td⟩,TR⟩,TS⟩,TP⟩,Tf⟩,TZ⟩,TX⟩,S6⟩,TO⟩,S7⟩,TU⟩,Tj⟩,Ti⟩,Ta⟩,TN⟩,SA⟩,Ui⟩,Tb⟩,TM⟩,TL⟩,TT⟩,TW⟩,TQ⟩,TY⟩,Th⟩,Tg⟩
end Go.Proofs.YtfcfkigfmofniaaGreat
