/- Lemmas. -/
import Derived.Test.YtmbomnkcdolalaaGreatRows
import Derived.JoinedOf
import Derived.JoinedAt
import Derived.Handed
set_option linter.all false
set_option maxRecDepth 100000
namespace Go.Proofs.YtmbomnkcdolalaaGreat
open Go Go.Proofs.Tryz
theorem U8:(Rows.transactionRunRow.wf (OpenSpec.ofChange Rows.transactionRunSpec))=true:=by kernel_rfl
theorem Sb:(laidOutB prog)=true:=by kernel_rfl
theorem SK:(mapsRowed prog)=true:=by kernel_rfl
theorem U7:(f5.params.all (prog.readableRec ·))=true:=by kernel_rfl
theorem UD:(namedTie prog Rows.transactionRunRow.named Rows.transactionRunSpec.vars)=true:=by kernel_rfl
theorem UB:(Rows.transactionRunRow.stops==[])=true:=by kernel_rfl
theorem UC:(prog.stops==[])=true:=by kernel_rfl
theorem Tz:(Rows.transactionRunRow.knobs==[])=true:=by kernel_rfl
theorem T1:(prog.stopKnobs==[])=true:=by kernel_rfl
theorem Tx:(Rows.transactionRunRow.inPlace==prog.inPlace 5)=true:=by kernel_rfl
theorem UE:(Rows.transactionRunRow.unfollowed==prog.unfollowed 5)=true:=by kernel_rfl
theorem T8:(Rows.transactionRunRow.recurses==prog.recurses 5)=true:=by kernel_rfl
theorem T6:(Rows.transactionRunRow.named==prog.varsNamed 5)=true:=by kernel_rfl
theorem Sd:(Rows.transactionRunRow.maps==(f5.params.toList++Rows.transactionRunSpec.plain.varTypes prog).any (prog.mapsRec ·))=true:=by kernel_rfl
theorem Tw:(Rows.transactionRunRow.ifaces==(f5.params.toList++Rows.transactionRunSpec.plain.varTypes prog).any (prog.ifacesRec ·))=true:=by kernel_rfl
theorem Se:(Rows.transactionRunRow.mapsOut==prog.mapsAmong f5.resultTypes.toList)=true:=by kernel_rfl
theorem T4:(Rows.transactionRunRow.loops==(f5.params.toList++Rows.transactionRunSpec.plain.varTypes prog).any (prog.loopsFrom ·))=true:=by kernel_rfl
theorem UI:(Rows.transactionRunRow.wideKeys==(f5.params.toList++Rows.transactionRunSpec.plain.varTypes prog++f5.resultTypes.toList).any (prog.wideKeysFrom ·))=true:=by kernel_rfl
theorem UH:(Rows.transactionRunSpec.vars.all (prog.varReadable ·))=true:=by kernel_rfl
theorem T9:(f5.resultTypes.all (fun t=>prog.readableRec t&&decide (t<prog.types.size)))=true:=by kernel_rfl
theorem Tv:(Rows.transactionRunRow.ifacesOut==f5.resultTypes.toList.any (prog.ifacesRec ·))=true:=by kernel_rfl
theorem SJ:(Rows.transactionRunRow.loopsOut==f5.resultTypes.toList.any (prog.loopsFrom ·))=true:=by kernel_rfl
theorem U6:(Rows.transactionRunRow.plainKeys==prog.plainKeys)=true:=by kernel_rfl
theorem UA:(Rows.transactionRunRow.shortTexts.isNone)=true:=by kernel_rfl
theorem Tu:(prog.stopsHeard)=true:=by kernel_rfl
theorem Tt:(prog.mayEnter)=true:=by kernel_rfl
theorem T3:(Rows.transactionRunRow.lifted==prog.liftsFinal)=true:=by kernel_rfl
theorem T5:(prog.make==some Rows.transactionRunRow.make)=true:=by kernel_rfl
theorem Ty:(Rows.transactionRunRow.kinds==(if Rows.transactionRunRow.domain.isEmpty then[]else f5.params.toList.map fun t=>match prog.underlying t with|some (.int k)=>some k|_=>none))=true:=by kernel_rfl
theorem T7:(Rows.transactionRunRow.pinned==Rows.transactionRunRow.pinnedBy)=true:=by kernel_rfl
theorem UG:(Rows.transactionRunRow.veiled==(f5.params.toList++Rows.transactionRunSpec.plain.varTypes prog++f5.resultTypes.toList).any (prog.veiledRec ·))=true:=by kernel_rfl
theorem UF:(Rows.transactionRunRow.veiledFits prog f5.params.toList (f5.params.toList++Rows.transactionRunSpec.plain.varTypes prog++f5.resultTypes.toList))=true:=by kernel_rfl
theorem SZ:prog.funcNamed Rows.transactionRunRow.func=some 5:=by kernel_rfl
theorem SY:joinedFacts prog 5 f5 Rows.transactionRunSpec Rows.transactionRunRow=true:=
 Bool.and_eq_true_iff.2 ⟨Bool.and_eq_true_iff.2 ⟨Bool.and_eq_true_iff.2 ⟨Bool.and_eq_true_iff.2 ⟨Bool.and_eq_true_iff.2 ⟨Bool.and_eq_true_iff.2 ⟨Bool.and_eq_true_iff.2 ⟨Bool.and_eq_true_iff.2 ⟨Bool.and_eq_true_iff.2 ⟨Bool.and_eq_true_iff.2 ⟨Bool.and_eq_true_iff.2 ⟨Bool.and_eq_true_iff.2 ⟨Bool.and_eq_true_iff.2 ⟨Bool.and_eq_true_iff.2 ⟨Bool.and_eq_true_iff.2 ⟨Bool.and_eq_true_iff.2 ⟨Bool.and_eq_true_iff.2 ⟨Bool.and_eq_true_iff.2 ⟨Bool.and_eq_true_iff.2 ⟨Bool.and_eq_true_iff.2 ⟨Bool.and_eq_true_iff.2 ⟨Bool.and_eq_true_iff.2 ⟨Bool.and_eq_true_iff.2 ⟨Bool.and_eq_true_iff.2 ⟨Bool.and_eq_true_iff.2 ⟨Bool.and_eq_true_iff.2 ⟨Bool.and_eq_true_iff.2 ⟨Bool.and_eq_true_iff.2 ⟨Bool.and_eq_true_iff.2 ⟨Bool.and_eq_true_iff.2 ⟨Bool.and_eq_true_iff.2 ⟨U8,Sb⟩,SK⟩,U7⟩,UD⟩,UB⟩,UC⟩,Tz⟩,T1⟩,Tx⟩,UE⟩,T8⟩,T6⟩,Sd⟩,Tw⟩,Se⟩,T4⟩,UI⟩,UH⟩,T9⟩,Tv⟩,SJ⟩,U6⟩,UA⟩,Tu⟩,Tt⟩,T3⟩,T5⟩,Ty⟩,T7⟩,UG⟩,UF⟩
end Go.Proofs.YtmbomnkcdolalaaGreat
