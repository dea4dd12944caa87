/- Lemmas. -/
import Derived.Test.YtiaddfklojalbaaGreatRows
import Derived.JoinedOf
import Derived.JoinedAt
import Derived.Handed
set_option linter.all false
set_option maxRecDepth 100000
open Bool renaming true->X
open Bool renaming and_eq_true_iff->w?
namespace Go.Proofs.YtiaddfklojalbaaGreat
open Go Go.Proofs.Tryz
theorem T9:(Rows.translateBackwardRow.wf (OpenSpec.ofChange Rows.translateBackwardSpec))=X:=by kernel_rfl
theorem Rc:(laidOutB prog)=X:=by kernel_rfl
theorem Qh:(mapsRowed prog)=X:=by kernel_rfl
theorem T8:(f3.params.all (prog.readableRec ·))=X:=by kernel_rfl
theorem Sw:(namedTie prog Rows.translateBackwardRow.named Rows.translateBackwardSpec.vars)=X:=by kernel_rfl
theorem Su:(Rows.translateBackwardRow.stops==[])=X:=by kernel_rfl
theorem Sv:(prog.stops==[])=X:=by kernel_rfl
theorem Sh:(Rows.translateBackwardRow.knobs==[])=X:=by kernel_rfl
theorem Si:(prog.stopKnobs==[])=X:=by kernel_rfl
theorem Se:(Rows.translateBackwardRow.inPlace==prog.inPlace 3)=X:=by kernel_rfl
theorem Sx:(Rows.translateBackwardRow.unfollowed==prog.unfollowed 3)=X:=by kernel_rfl
theorem Sr:(Rows.translateBackwardRow.recurses==prog.recurses 3)=X:=by kernel_rfl
theorem So:(Rows.translateBackwardRow.named==prog.varsNamed 3)=X:=by kernel_rfl
theorem Rd:(Rows.translateBackwardRow.maps==(f3.params.toList++Rows.translateBackwardSpec.plain.varTypes prog).any (prog.mapsRec ·))=X:=by kernel_rfl
theorem Sd:(Rows.translateBackwardRow.ifaces==(f3.params.toList++Rows.translateBackwardSpec.plain.varTypes prog).any (prog.ifacesRec ·))=X:=by kernel_rfl
theorem Rf:(Rows.translateBackwardRow.mapsOut==prog.mapsAmong f3.resultTypes.toList)=X:=by kernel_rfl
theorem Sl:(Rows.translateBackwardRow.loops==(f3.params.toList++Rows.translateBackwardSpec.plain.varTypes prog).any (prog.loopsFrom ·))=X:=by kernel_rfl
theorem S2:(Rows.translateBackwardRow.wideKeys==(f3.params.toList++Rows.translateBackwardSpec.plain.varTypes prog++f3.resultTypes.toList).any (prog.wideKeysFrom ·))=X:=by kernel_rfl
theorem S1:(Rows.translateBackwardSpec.vars.all (prog.varReadable ·))=X:=by kernel_rfl
theorem Ss:(f3.resultTypes.all (λt=>prog.readableRec t&&decide (t<prog.types.size)))=X:=by kernel_rfl
theorem Sb:(Rows.translateBackwardRow.ifacesOut==f3.resultTypes.toList.any (prog.ifacesRec ·))=X:=by kernel_rfl
theorem Qg:(Rows.translateBackwardRow.loopsOut==f3.resultTypes.toList.any (prog.loopsFrom ·))=X:=by kernel_rfl
theorem T7:(Rows.translateBackwardRow.plainKeys==prog.plainKeys)=X:=by kernel_rfl
theorem St:(Rows.translateBackwardRow.shortTexts.isNone)=X:=by kernel_rfl
theorem Sa:(prog.stopsHeard)=X:=by kernel_rfl
theorem SZ:(prog.mayEnter)=X:=by kernel_rfl
theorem Sj:(Rows.translateBackwardRow.lifted==prog.liftsFinal)=X:=by kernel_rfl
theorem Sn:(prog.make==some Rows.translateBackwardRow.make)=X:=by kernel_rfl
theorem Sg:(Rows.translateBackwardRow.kinds==(if Rows.translateBackwardRow.domain.isEmpty then[]else f3.params.toList.map λt=>match prog.underlying t with|some (.int k)=>some k|_=>none))=X:=by kernel_rfl
theorem Sp:(Rows.translateBackwardRow.pinned==Rows.translateBackwardRow.pinnedBy)=X:=by kernel_rfl
theorem S0:(Rows.translateBackwardRow.veiled==(f3.params.toList++Rows.translateBackwardSpec.plain.varTypes prog++f3.resultTypes.toList).any (prog.veiledRec ·))=X:=by kernel_rfl
theorem Sz:(Rows.translateBackwardRow.veiledFits prog f3.params.toList (f3.params.toList++Rows.translateBackwardSpec.plain.varTypes prog++f3.resultTypes.toList))=X:=by kernel_rfl
theorem Ra:prog.funcNamed Rows.translateBackwardRow.func=some 3:=by kernel_rfl
theorem RZ:joinedFacts prog 3 f3 Rows.translateBackwardSpec Rows.translateBackwardRow=X:=
 w?.2 ⟨w?.2 ⟨w?.2 ⟨w?.2 ⟨w?.2 ⟨w?.2 ⟨w?.2 ⟨w?.2 ⟨w?.2 ⟨w?.2 ⟨w?.2 ⟨w?.2 ⟨w?.2 ⟨w?.2 ⟨w?.2 ⟨w?.2 ⟨w?.2 ⟨w?.2 ⟨w?.2 ⟨w?.2 ⟨w?.2 ⟨w?.2 ⟨w?.2 ⟨w?.2 ⟨w?.2 ⟨w?.2 ⟨w?.2 ⟨w?.2 ⟨w?.2 ⟨w?.2 ⟨w?.2 ⟨T9,Rc⟩,Qh⟩,T8⟩,Sw⟩,Su⟩,Sv⟩,Sh⟩,Si⟩,Se⟩,Sx⟩,Sr⟩,So⟩,Rd⟩,Sd⟩,Rf⟩,Sl⟩,S2⟩,S1⟩,Ss⟩,Sb⟩,Qg⟩,T7⟩,St⟩,Sa⟩,SZ⟩,Sj⟩,Sn⟩,Sg⟩,Sp⟩,S0⟩,Sz⟩
end Go.Proofs.YtiaddfklojalbaaGreat
