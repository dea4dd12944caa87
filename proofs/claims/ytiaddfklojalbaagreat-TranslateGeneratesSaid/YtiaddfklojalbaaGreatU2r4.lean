/- Lemmas. -/
import Derived.Test.YtiaddfklojalbaaGreatRows
import Derived.JoinedOf
import Derived.JoinedAt
import Derived.Handed
set_option linter.all false
set_option maxRecDepth 100000
open Bool renaming true->X
open Bool renaming and_eq_true_iff->w?
namespace Go.Proofs.YtiaddfklojalbaaGreat
open Go Go.Proofs.Tryz
theorem TB:(Rows.translateGeneratesRow.wf (OpenSpec.ofChange Rows.translateGeneratesSpec))=X:=by kernel_rfl
theorem Ql:(laidOutB prog)=X:=by kernel_rfl
theorem Qb:(mapsRowed prog)=X:=by kernel_rfl
theorem TA:(f4.params.all (prog.readableRec ·))=X:=by kernel_rfl
theorem R4:(namedTie prog Rows.translateGeneratesRow.named Rows.translateGeneratesSpec.vars)=X:=by kernel_rfl
theorem R2:(Rows.translateGeneratesRow.stops==[])=X:=by kernel_rfl
theorem R3:(prog.stops==[])=X:=by kernel_rfl
theorem Rs:(Rows.translateGeneratesRow.knobs==[])=X:=by kernel_rfl
theorem Rt:(prog.stopKnobs==[])=X:=by kernel_rfl
theorem Rp:(Rows.translateGeneratesRow.inPlace==prog.inPlace 4)=X:=by kernel_rfl
theorem R5:(Rows.translateGeneratesRow.unfollowed==prog.unfollowed 4)=X:=by kernel_rfl
theorem Rz:(Rows.translateGeneratesRow.recurses==prog.recurses 4)=X:=by kernel_rfl
theorem Rx:(Rows.translateGeneratesRow.named==prog.varsNamed 4)=X:=by kernel_rfl
theorem Qm:(Rows.translateGeneratesRow.maps==(f4.params.toList++Rows.translateGeneratesSpec.plain.varTypes prog).any (prog.mapsRec ·))=X:=by kernel_rfl
theorem Ro:(Rows.translateGeneratesRow.ifaces==(f4.params.toList++Rows.translateGeneratesSpec.plain.varTypes prog).any (prog.ifacesRec ·))=X:=by kernel_rfl
theorem Qn:(Rows.translateGeneratesRow.mapsOut==prog.mapsAmong f4.resultTypes.toList)=X:=by kernel_rfl
theorem Rv:(Rows.translateGeneratesRow.loops==(f4.params.toList++Rows.translateGeneratesSpec.plain.varTypes prog).any (prog.loopsFrom ·))=X:=by kernel_rfl
theorem R9:(Rows.translateGeneratesRow.wideKeys==(f4.params.toList++Rows.translateGeneratesSpec.plain.varTypes prog++f4.resultTypes.toList).any (prog.wideKeysFrom ·))=X:=by kernel_rfl
theorem R8:(Rows.translateGeneratesSpec.vars.all (prog.varReadable ·))=X:=by kernel_rfl
theorem R0:(f4.resultTypes.all (λt=>prog.readableRec t&&decide (t<prog.types.size)))=X:=by kernel_rfl
theorem Rm:(Rows.translateGeneratesRow.ifacesOut==f4.resultTypes.toList.any (prog.ifacesRec ·))=X:=by kernel_rfl
theorem Qa:(Rows.translateGeneratesRow.loopsOut==f4.resultTypes.toList.any (prog.loopsFrom ·))=X:=by kernel_rfl
theorem S9:(Rows.translateGeneratesRow.plainKeys==prog.plainKeys)=X:=by kernel_rfl
theorem R1:(Rows.translateGeneratesRow.shortTexts.isNone)=X:=by kernel_rfl
theorem Rl:(prog.stopsHeard)=X:=by kernel_rfl
theorem Rk:(prog.mayEnter)=X:=by kernel_rfl
theorem Ru:(Rows.translateGeneratesRow.lifted==prog.liftsFinal)=X:=by kernel_rfl
theorem Rw:(prog.make==some Rows.translateGeneratesRow.make)=X:=by kernel_rfl
theorem Rr:(Rows.translateGeneratesRow.kinds==(if Rows.translateGeneratesRow.domain.isEmpty then[]else f4.params.toList.map λt=>match prog.underlying t with|some (.int k)=>some k|_=>none))=X:=by kernel_rfl
theorem Ry:(Rows.translateGeneratesRow.pinned==Rows.translateGeneratesRow.pinnedBy)=X:=by kernel_rfl
theorem R7:(Rows.translateGeneratesRow.veiled==(f4.params.toList++Rows.translateGeneratesSpec.plain.varTypes prog++f4.resultTypes.toList).any (prog.veiledRec ·))=X:=by kernel_rfl
theorem R6:(Rows.translateGeneratesRow.veiledFits prog f4.params.toList (f4.params.toList++Rows.translateGeneratesSpec.plain.varTypes prog++f4.resultTypes.toList))=X:=by kernel_rfl
theorem Qj:prog.funcNamed Rows.translateGeneratesRow.func=some 4:=by kernel_rfl
theorem Qi:joinedFacts prog 4 f4 Rows.translateGeneratesSpec Rows.translateGeneratesRow=X:=
 w?.2 ⟨w?.2 ⟨w?.2 ⟨w?.2 ⟨w?.2 ⟨w?.2 ⟨w?.2 ⟨w?.2 ⟨w?.2 ⟨w?.2 ⟨w?.2 ⟨w?.2 ⟨w?.2 ⟨w?.2 ⟨w?.2 ⟨w?.2 ⟨w?.2 ⟨w?.2 ⟨w?.2 ⟨w?.2 ⟨w?.2 ⟨w?.2 ⟨w?.2 ⟨w?.2 ⟨w?.2 ⟨w?.2 ⟨w?.2 ⟨w?.2 ⟨w?.2 ⟨w?.2 ⟨w?.2 ⟨TB,Ql⟩,Qb⟩,TA⟩,R4⟩,R2⟩,R3⟩,Rs⟩,Rt⟩,Rp⟩,R5⟩,Rz⟩,Rx⟩,Qm⟩,Ro⟩,Qn⟩,Rv⟩,R9⟩,R8⟩,R0⟩,Rm⟩,Qa⟩,S9⟩,R1⟩,Rl⟩,Rk⟩,Ru⟩,Rw⟩,Rr⟩,Ry⟩,R7⟩,R6⟩
end Go.Proofs.YtiaddfklojalbaaGreat
