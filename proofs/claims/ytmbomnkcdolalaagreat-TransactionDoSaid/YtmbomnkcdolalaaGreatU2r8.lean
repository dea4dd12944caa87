/- Lemmas. -/
import Derived.Test.YtmbomnkcdolalaaGreatRows
import Derived.JoinedOf
import Derived.JoinedAt
import Derived.Handed
set_option linter.all false
set_option maxRecDepth 100000
namespace Go.Proofs.YtmbomnkcdolalaaGreat
open Go Go.Proofs.Tryz
theorem Vx:(Rows.transactionDoRow.wf (OpenSpec.ofChange Rows.transactionDoSpec))=true:=by kernel_rfl
theorem Tp:(laidOutB prog)=true:=by kernel_rfl
theorem SX:(mapsRowed prog)=true:=by kernel_rfl
theorem Vw:(f8.params.all (prog.readableRec ·))=true:=by kernel_rfl
theorem U0:(namedTie prog Rows.transactionDoRow.named Rows.transactionDoSpec.vars)=true:=by kernel_rfl
theorem Uy:(Rows.transactionDoRow.stops==[])=true:=by kernel_rfl
theorem Uz:(prog.stops==[])=true:=by kernel_rfl
theorem Uo:(Rows.transactionDoRow.knobs==[])=true:=by kernel_rfl
theorem Up:(prog.stopKnobs==[])=true:=by kernel_rfl
theorem Um:(Rows.transactionDoRow.inPlace==prog.inPlace 8)=true:=by kernel_rfl
theorem U1:(Rows.transactionDoRow.unfollowed==prog.unfollowed 8)=true:=by kernel_rfl
theorem Uv:(Rows.transactionDoRow.recurses==prog.recurses 8)=true:=by kernel_rfl
theorem Ut:(Rows.transactionDoRow.named==prog.varsNamed 8)=true:=by kernel_rfl
theorem Tq:(Rows.transactionDoRow.maps==(f8.params.toList++Rows.transactionDoSpec.plain.varTypes prog).any (prog.mapsRec ·))=true:=by kernel_rfl
theorem Ul:(Rows.transactionDoRow.ifaces==(f8.params.toList++Rows.transactionDoSpec.plain.varTypes prog).any (prog.ifacesRec ·))=true:=by kernel_rfl
theorem Tr:(Rows.transactionDoRow.mapsOut==prog.mapsAmong f8.resultTypes.toList)=true:=by kernel_rfl
theorem Ur:(Rows.transactionDoRow.loops==(f8.params.toList++Rows.transactionDoSpec.plain.varTypes prog).any (prog.loopsFrom ·))=true:=by kernel_rfl
theorem U5:(Rows.transactionDoRow.wideKeys==(f8.params.toList++Rows.transactionDoSpec.plain.varTypes prog++f8.resultTypes.toList).any (prog.wideKeysFrom ·))=true:=by kernel_rfl
theorem U4:(Rows.transactionDoSpec.vars.all (prog.varReadable ·))=true:=by kernel_rfl
theorem Uw:(f8.resultTypes.all (fun t=>prog.readableRec t&&decide (t<prog.types.size)))=true:=by kernel_rfl
theorem Uk:(Rows.transactionDoRow.ifacesOut==f8.resultTypes.toList.any (prog.ifacesRec ·))=true:=by kernel_rfl
theorem SW:(Rows.transactionDoRow.loopsOut==f8.resultTypes.toList.any (prog.loopsFrom ·))=true:=by kernel_rfl
theorem Vv:(Rows.transactionDoRow.plainKeys==prog.plainKeys)=true:=by kernel_rfl
theorem Ux:(Rows.transactionDoRow.shortTexts.isNone)=true:=by kernel_rfl
theorem Uj:(prog.stopsHeard)=true:=by kernel_rfl
theorem Ui:(prog.mayEnter)=true:=by kernel_rfl
theorem Uq:(Rows.transactionDoRow.lifted==prog.liftsFinal)=true:=by kernel_rfl
theorem Us:(prog.make==some Rows.transactionDoRow.make)=true:=by kernel_rfl
theorem Un:(Rows.transactionDoRow.kinds==(if Rows.transactionDoRow.domain.isEmpty then[]else f8.params.toList.map fun t=>match prog.underlying t with|some (.int k)=>some k|_=>none))=true:=by kernel_rfl
theorem Uu:(Rows.transactionDoRow.pinned==Rows.transactionDoRow.pinnedBy)=true:=by kernel_rfl
theorem U3:(Rows.transactionDoRow.veiled==(f8.params.toList++Rows.transactionDoSpec.plain.varTypes prog++f8.resultTypes.toList).any (prog.veiledRec ·))=true:=by kernel_rfl
theorem U2:(Rows.transactionDoRow.veiledFits prog f8.params.toList (f8.params.toList++Rows.transactionDoSpec.plain.varTypes prog++f8.resultTypes.toList))=true:=by kernel_rfl
theorem Tm:prog.funcNamed Rows.transactionDoRow.func=some 8:=by kernel_rfl
theorem Tl:joinedFacts prog 8 f8 Rows.transactionDoSpec Rows.transactionDoRow=true:=
 Bool.and_eq_true_iff.2 ⟨Bool.and_eq_true_iff.2 ⟨Bool.and_eq_true_iff.2 ⟨Bool.and_eq_true_iff.2 ⟨Bool.and_eq_true_iff.2 ⟨Bool.and_eq_true_iff.2 ⟨Bool.and_eq_true_iff.2 ⟨Bool.and_eq_true_iff.2 ⟨Bool.and_eq_true_iff.2 ⟨Bool.and_eq_true_iff.2 ⟨Bool.and_eq_true_iff.2 ⟨Bool.and_eq_true_iff.2 ⟨Bool.and_eq_true_iff.2 ⟨Bool.and_eq_true_iff.2 ⟨Bool.and_eq_true_iff.2 ⟨Bool.and_eq_true_iff.2 ⟨Bool.and_eq_true_iff.2 ⟨Bool.and_eq_true_iff.2 ⟨Bool.and_eq_true_iff.2 ⟨Bool.and_eq_true_iff.2 ⟨Bool.and_eq_true_iff.2 ⟨Bool.and_eq_true_iff.2 ⟨Bool.and_eq_true_iff.2 ⟨Bool.and_eq_true_iff.2 ⟨Bool.and_eq_true_iff.2 ⟨Bool.and_eq_true_iff.2 ⟨Bool.and_eq_true_iff.2 ⟨Bool.and_eq_true_iff.2 ⟨Bool.and_eq_true_iff.2 ⟨Bool.and_eq_true_iff.2 ⟨Bool.and_eq_true_iff.2 ⟨Vx,Tp⟩,SX⟩,Vw⟩,U0⟩,Uy⟩,Uz⟩,Uo⟩,Up⟩,Um⟩,U1⟩,Uv⟩,Ut⟩,Tq⟩,Ul⟩,Tr⟩,Ur⟩,U5⟩,U4⟩,Uw⟩,Uk⟩,SW⟩,Vv⟩,Ux⟩,Uj⟩,Ui⟩,Uq⟩,Us⟩,Un⟩,Uu⟩,U3⟩,U2⟩
end Go.Proofs.YtmbomnkcdolalaaGreat
