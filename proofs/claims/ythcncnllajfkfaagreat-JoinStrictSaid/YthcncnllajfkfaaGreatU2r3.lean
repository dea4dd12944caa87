/- Lemmas. -/
import Derived.Test.YthcncnllajfkfaaGreatRows
import Derived.JoinedOf
import Derived.JoinedAt
import Derived.Handed
set_option linter.all false
set_option maxRecDepth 100000
open Bool renaming true->X
open Bool renaming and_eq_true_iff->v1
namespace Go.Proofs.YthcncnllajfkfaaGreat
open Go Go.Proofs.Tryz
theorem cQ:(Rows.joinStrictRow.wf (OpenSpec.ofChange Rows.joinStrictSpec))=X:=by kernel_rfl
theorem YW:(laidOutB prog)=X:=by kernel_rfl
theorem XH:(mapsRowed prog)=X:=by kernel_rfl
theorem cP:(f3.params.all (prog.readableRec ·))=X:=by kernel_rfl
theorem Zo:(namedTie prog Rows.joinStrictRow.named Rows.joinStrictSpec.vars)=X:=by kernel_rfl
theorem Zm:(Rows.joinStrictRow.stops==[])=X:=by kernel_rfl
theorem Zn:(prog.stops==[])=X:=by kernel_rfl
theorem Zc:(Rows.joinStrictRow.knobs==[])=X:=by kernel_rfl
theorem Zd:(prog.stopKnobs==[])=X:=by kernel_rfl
theorem Za:(Rows.joinStrictRow.inPlace==prog.inPlace 3)=X:=by kernel_rfl
theorem Zp:(Rows.joinStrictRow.unfollowed==prog.unfollowed 3)=X:=by kernel_rfl
theorem Zj:(Rows.joinStrictRow.recurses==prog.recurses 3)=X:=by kernel_rfl
theorem Zh:(Rows.joinStrictRow.named==prog.varsNamed 3)=X:=by kernel_rfl
theorem YX:(Rows.joinStrictRow.maps==(f3.params.toList++Rows.joinStrictSpec.plain.varTypes prog).any (prog.mapsRec ·))=X:=by kernel_rfl
theorem ZZ:(Rows.joinStrictRow.ifaces==(f3.params.toList++Rows.joinStrictSpec.plain.varTypes prog).any (prog.ifacesRec ·))=X:=by kernel_rfl
theorem YY:(Rows.joinStrictRow.mapsOut==prog.mapsAmong f3.resultTypes.toList)=X:=by kernel_rfl
theorem Zf:(Rows.joinStrictRow.loops==(f3.params.toList++Rows.joinStrictSpec.plain.varTypes prog).any (prog.loopsFrom ·))=X:=by kernel_rfl
theorem Zt:(Rows.joinStrictRow.wideKeys==(f3.params.toList++Rows.joinStrictSpec.plain.varTypes prog++f3.resultTypes.toList).any (prog.wideKeysFrom ·))=X:=by kernel_rfl
theorem Zs:(Rows.joinStrictSpec.vars.all (prog.varReadable ·))=X:=by kernel_rfl
theorem Zk:(f3.resultTypes.all (λt=>prog.readableRec t&&decide (t<prog.types.size)))=X:=by kernel_rfl
theorem ZY:(Rows.joinStrictRow.ifacesOut==f3.resultTypes.toList.any (prog.ifacesRec ·))=X:=by kernel_rfl
theorem XG:(Rows.joinStrictRow.loopsOut==f3.resultTypes.toList.any (prog.loopsFrom ·))=X:=by kernel_rfl
theorem cO:(Rows.joinStrictRow.plainKeys==prog.plainKeys)=X:=by kernel_rfl
theorem Zl:(Rows.joinStrictRow.shortTexts.isNone)=X:=by kernel_rfl
theorem ZX:(prog.stopsHeard)=X:=by kernel_rfl
theorem ZW:(prog.mayEnter)=X:=by kernel_rfl
theorem Ze:(Rows.joinStrictRow.lifted==prog.liftsFinal)=X:=by kernel_rfl
theorem Zg:(prog.make==some Rows.joinStrictRow.make)=X:=by kernel_rfl
theorem Zb:(Rows.joinStrictRow.kinds==(if Rows.joinStrictRow.domain.isEmpty then[]else f3.params.toList.map λt=>match prog.underlying t with|some (.int k)=>some k|_=>none))=X:=by kernel_rfl
theorem Zi:(Rows.joinStrictRow.pinned==Rows.joinStrictRow.pinnedBy)=X:=by kernel_rfl
theorem Zr:(Rows.joinStrictRow.veiled==(f3.params.toList++Rows.joinStrictSpec.plain.varTypes prog++f3.resultTypes.toList).any (prog.veiledRec ·))=X:=by kernel_rfl
theorem Zq:(Rows.joinStrictRow.veiledFits prog f3.params.toList (f3.params.toList++Rows.joinStrictSpec.plain.varTypes prog++f3.resultTypes.toList))=X:=by kernel_rfl
theorem YU:prog.funcNamed Rows.joinStrictRow.func=some 3:=by kernel_rfl
theorem YT:joinedFacts prog 3 f3 Rows.joinStrictSpec Rows.joinStrictRow=X:=
 v1.2 ⟨v1.2 ⟨v1.2 ⟨v1.2 ⟨v1.2 ⟨v1.2 ⟨v1.2 ⟨v1.2 ⟨v1.2 ⟨v1.2 ⟨v1.2 ⟨v1.2 ⟨v1.2 ⟨v1.2 ⟨v1.2 ⟨v1.2 ⟨v1.2 ⟨v1.2 ⟨v1.2 ⟨v1.2 ⟨v1.2 ⟨v1.2 ⟨v1.2 ⟨v1.2 ⟨v1.2 ⟨v1.2 ⟨v1.2 ⟨v1.2 ⟨v1.2 ⟨v1.2 ⟨v1.2 ⟨cQ,YW⟩,XH⟩,cP⟩,Zo⟩,Zm⟩,Zn⟩,Zc⟩,Zd⟩,Za⟩,Zp⟩,Zj⟩,Zh⟩,YX⟩,ZZ⟩,YY⟩,Zf⟩,Zt⟩,Zs⟩,Zk⟩,ZY⟩,XG⟩,cO⟩,Zl⟩,ZX⟩,ZW⟩,Ze⟩,Zg⟩,Zb⟩,Zi⟩,Zr⟩,Zq⟩
end Go.Proofs.YthcncnllajfkfaaGreat
