/- Lemmas. -/
import Derived.Test.YtjgaphkmbjbdkaaGreatRows
import Derived.JoinedOf
import Derived.JoinedAt
import Derived.Handed
set_option linter.all false
set_option maxRecDepth 100000
namespace Go.Proofs.YtjgaphkmbjbdkaaGreat
open Go Go.Proofs.Tryz
theorem Z9:(Rows.joinCheckRow.wf (OpenSpec.ofChange Rows.joinCheckSpec))=true:=by kernel_rfl
theorem Ww:(laidOutB prog)=true:=by kernel_rfl
theorem V1:(mapsRowed prog)=true:=by kernel_rfl
theorem Z8:(f3.params.all (prog.readableRec ·))=true:=by kernel_rfl
theorem Yt:(namedTie prog Rows.joinCheckRow.named Rows.joinCheckSpec.vars)=true:=by kernel_rfl
theorem Yr:(Rows.joinCheckRow.stops==[])=true:=by kernel_rfl
theorem Ys:(prog.stops==[])=true:=by kernel_rfl
theorem Yh:(Rows.joinCheckRow.knobs==[])=true:=by kernel_rfl
theorem Yi:(prog.stopKnobs==[])=true:=by kernel_rfl
theorem Yf:(Rows.joinCheckRow.inPlace==prog.inPlace 3)=true:=by kernel_rfl
theorem Yu:(Rows.joinCheckRow.unfollowed==prog.unfollowed 3)=true:=by kernel_rfl
theorem Yo:(Rows.joinCheckRow.recurses==prog.recurses 3)=true:=by kernel_rfl
theorem Ym:(Rows.joinCheckRow.named==prog.varsNamed 3)=true:=by kernel_rfl
theorem Wx:(Rows.joinCheckRow.maps==(f3.params.toList++Rows.joinCheckSpec.plain.varTypes prog).any (prog.mapsRec ·))=true:=by kernel_rfl
theorem Ye:(Rows.joinCheckRow.ifaces==(f3.params.toList++Rows.joinCheckSpec.plain.varTypes prog).any (prog.ifacesRec ·))=true:=by kernel_rfl
theorem Wy:(Rows.joinCheckRow.mapsOut==prog.mapsAmong f3.resultTypes.toList)=true:=by kernel_rfl
theorem Yk:(Rows.joinCheckRow.loops==(f3.params.toList++Rows.joinCheckSpec.plain.varTypes prog).any (prog.loopsFrom ·))=true:=by kernel_rfl
theorem Yy:(Rows.joinCheckRow.wideKeys==(f3.params.toList++Rows.joinCheckSpec.plain.varTypes prog++f3.resultTypes.toList).any (prog.wideKeysFrom ·))=true:=by kernel_rfl
theorem Yx:(Rows.joinCheckSpec.vars.all (prog.varReadable ·))=true:=by kernel_rfl
theorem Yp:(f3.resultTypes.all (fun t=>prog.readableRec t&&decide (t<prog.types.size)))=true:=by kernel_rfl
theorem Yd:(Rows.joinCheckRow.ifacesOut==f3.resultTypes.toList.any (prog.ifacesRec ·))=true:=by kernel_rfl
theorem V0:(Rows.joinCheckRow.loopsOut==f3.resultTypes.toList.any (prog.loopsFrom ·))=true:=by kernel_rfl
theorem Z7:(Rows.joinCheckRow.plainKeys==prog.plainKeys)=true:=by kernel_rfl
theorem Yq:(Rows.joinCheckRow.shortTexts.isNone)=true:=by kernel_rfl
theorem Yc:(prog.stopsHeard)=true:=by kernel_rfl
theorem Yb:(prog.mayEnter)=true:=by kernel_rfl
theorem Yj:(Rows.joinCheckRow.lifted==prog.liftsFinal)=true:=by kernel_rfl
theorem Yl:(prog.make==some Rows.joinCheckRow.make)=true:=by kernel_rfl
theorem Yg:(Rows.joinCheckRow.kinds==(if Rows.joinCheckRow.domain.isEmpty then[]else f3.params.toList.map fun t=>match prog.underlying t with|some (.int k)=>some k|_=>none))=true:=by kernel_rfl
theorem Yn:(Rows.joinCheckRow.pinned==Rows.joinCheckRow.pinnedBy)=true:=by kernel_rfl
theorem Yw:(Rows.joinCheckRow.veiled==(f3.params.toList++Rows.joinCheckSpec.plain.varTypes prog++f3.resultTypes.toList).any (prog.veiledRec ·))=true:=by kernel_rfl
theorem Yv:(Rows.joinCheckRow.veiledFits prog f3.params.toList (f3.params.toList++Rows.joinCheckSpec.plain.varTypes prog++f3.resultTypes.toList))=true:=by kernel_rfl
theorem Wu:prog.funcNamed Rows.joinCheckRow.func=some 3:=by kernel_rfl
theorem Wt:joinedFacts prog 3 f3 Rows.joinCheckSpec Rows.joinCheckRow=true:=
 Bool.and_eq_true_iff.2 ⟨Bool.and_eq_true_iff.2 ⟨Bool.and_eq_true_iff.2 ⟨Bool.and_eq_true_iff.2 ⟨Bool.and_eq_true_iff.2 ⟨Bool.and_eq_true_iff.2 ⟨Bool.and_eq_true_iff.2 ⟨Bool.and_eq_true_iff.2 ⟨Bool.and_eq_true_iff.2 ⟨Bool.and_eq_true_iff.2 ⟨Bool.and_eq_true_iff.2 ⟨Bool.and_eq_true_iff.2 ⟨Bool.and_eq_true_iff.2 ⟨Bool.and_eq_true_iff.2 ⟨Bool.and_eq_true_iff.2 ⟨Bool.and_eq_true_iff.2 ⟨Bool.and_eq_true_iff.2 ⟨Bool.and_eq_true_iff.2 ⟨Bool.and_eq_true_iff.2 ⟨Bool.and_eq_true_iff.2 ⟨Bool.and_eq_true_iff.2 ⟨Bool.and_eq_true_iff.2 ⟨Bool.and_eq_true_iff.2 ⟨Bool.and_eq_true_iff.2 ⟨Bool.and_eq_true_iff.2 ⟨Bool.and_eq_true_iff.2 ⟨Bool.and_eq_true_iff.2 ⟨Bool.and_eq_true_iff.2 ⟨Bool.and_eq_true_iff.2 ⟨Bool.and_eq_true_iff.2 ⟨Bool.and_eq_true_iff.2 ⟨Z9,Ww⟩,V1⟩,Z8⟩,Yt⟩,Yr⟩,Ys⟩,Yh⟩,Yi⟩,Yf⟩,Yu⟩,Yo⟩,Ym⟩,Wx⟩,Ye⟩,Wy⟩,Yk⟩,Yy⟩,Yx⟩,Yp⟩,Yd⟩,V0⟩,Z7⟩,Yq⟩,Yc⟩,Yb⟩,Yj⟩,Yl⟩,Yg⟩,Yn⟩,Yw⟩,Yv⟩
end Go.Proofs.YtjgaphkmbjbdkaaGreat
