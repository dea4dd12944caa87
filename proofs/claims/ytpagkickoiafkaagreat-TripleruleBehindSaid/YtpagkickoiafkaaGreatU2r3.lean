/- Lemmas. -/
import Derived.Test.YtpagkickoiafkaaGreatRows
import Derived.JoinedOf
import Derived.JoinedAt
import Derived.Handed
set_option linter.all false
set_option maxRecDepth 100000
open Bool renaming true->X
open Bool renaming and_eq_true_iff->l!
namespace Go.Proofs.YtpagkickoiafkaaGreat
open Go Go.Proofs.Tryz
theorem OG:(Rows.tripleruleBehindRow.wf (OpenSpec.ofChange Rows.tripleruleBehindSpec))=X:=by kernel_rfl
theorem MS:(laidOutB prog)=X:=by kernel_rfl
theorem Lz:(mapsRowed prog)=X:=by kernel_rfl
theorem OF:(f3.params.all (prog.readableRec ·))=X:=by kernel_rfl
theorem Ny:(namedTie prog Rows.tripleruleBehindRow.named Rows.tripleruleBehindSpec.vars)=X:=by kernel_rfl
theorem Nw:(Rows.tripleruleBehindRow.stops==[])=X:=by kernel_rfl
theorem Nx:(prog.stops==[])=X:=by kernel_rfl
theorem Nk:(Rows.tripleruleBehindRow.knobs==[])=X:=by kernel_rfl
theorem Nl:(prog.stopKnobs==[])=X:=by kernel_rfl
theorem Ni:(Rows.tripleruleBehindRow.inPlace==prog.inPlace 3)=X:=by kernel_rfl
theorem Nz:(Rows.tripleruleBehindRow.unfollowed==prog.unfollowed 3)=X:=by kernel_rfl
theorem Nt:(Rows.tripleruleBehindRow.recurses==prog.recurses 3)=X:=by kernel_rfl
theorem Nr:(Rows.tripleruleBehindRow.named==prog.varsNamed 3)=X:=by kernel_rfl
theorem MT:(Rows.tripleruleBehindRow.maps==(f3.params.toList++Rows.tripleruleBehindSpec.plain.varTypes prog).any (prog.mapsRec ·))=X:=by kernel_rfl
theorem Nh:(Rows.tripleruleBehindRow.ifaces==(f3.params.toList++Rows.tripleruleBehindSpec.plain.varTypes prog).any (prog.ifacesRec ·))=X:=by kernel_rfl
theorem MU:(Rows.tripleruleBehindRow.mapsOut==prog.mapsAmong f3.resultTypes.toList)=X:=by kernel_rfl
theorem Np:(Rows.tripleruleBehindRow.loops==(f3.params.toList++Rows.tripleruleBehindSpec.plain.varTypes prog).any (prog.loopsFrom ·))=X:=by kernel_rfl
theorem N3:(Rows.tripleruleBehindRow.wideKeys==(f3.params.toList++Rows.tripleruleBehindSpec.plain.varTypes prog++f3.resultTypes.toList).any (prog.wideKeysFrom ·))=X:=by kernel_rfl
theorem N2:(Rows.tripleruleBehindSpec.vars.all (prog.varReadable ·))=X:=by kernel_rfl
theorem Nu:(f3.resultTypes.all (λt=>prog.readableRec t&&decide (t<prog.types.size)))=X:=by kernel_rfl
theorem Ng:(Rows.tripleruleBehindRow.ifacesOut==f3.resultTypes.toList.any (prog.ifacesRec ·))=X:=by kernel_rfl
theorem Ly:(Rows.tripleruleBehindRow.loopsOut==f3.resultTypes.toList.any (prog.loopsFrom ·))=X:=by kernel_rfl
theorem OE:(Rows.tripleruleBehindRow.plainKeys==prog.plainKeys)=X:=by kernel_rfl
theorem Nv:(Rows.tripleruleBehindRow.shortTexts.isNone)=X:=by kernel_rfl
theorem Nf:(prog.stopsHeard)=X:=by kernel_rfl
theorem Nd:(prog.mayEnter)=X:=by kernel_rfl
theorem Nn:(Rows.tripleruleBehindRow.lifted==prog.liftsFinal)=X:=by kernel_rfl
theorem Nq:(prog.make==some Rows.tripleruleBehindRow.make)=X:=by kernel_rfl
theorem Nj:(Rows.tripleruleBehindRow.kinds==(if Rows.tripleruleBehindRow.domain.isEmpty then[]else f3.params.toList.map λt=>match prog.underlying t with|some (.int k)=>some k|_=>none))=X:=by kernel_rfl
theorem Ns:(Rows.tripleruleBehindRow.pinned==Rows.tripleruleBehindRow.pinnedBy)=X:=by kernel_rfl
theorem N1:(Rows.tripleruleBehindRow.veiled==(f3.params.toList++Rows.tripleruleBehindSpec.plain.varTypes prog++f3.resultTypes.toList).any (prog.veiledRec ·))=X:=by kernel_rfl
theorem N0:(Rows.tripleruleBehindRow.veiledFits prog f3.params.toList (f3.params.toList++Rows.tripleruleBehindSpec.plain.varTypes prog++f3.resultTypes.toList))=X:=by kernel_rfl
theorem MQ:prog.funcNamed Rows.tripleruleBehindRow.func=some 3:=by kernel_rfl
theorem MP:joinedFacts prog 3 f3 Rows.tripleruleBehindSpec Rows.tripleruleBehindRow=X:=
 l!.2 ⟨l!.2 ⟨l!.2 ⟨l!.2 ⟨l!.2 ⟨l!.2 ⟨l!.2 ⟨l!.2 ⟨l!.2 ⟨l!.2 ⟨l!.2 ⟨l!.2 ⟨l!.2 ⟨l!.2 ⟨l!.2 ⟨l!.2 ⟨l!.2 ⟨l!.2 ⟨l!.2 ⟨l!.2 ⟨l!.2 ⟨l!.2 ⟨l!.2 ⟨l!.2 ⟨l!.2 ⟨l!.2 ⟨l!.2 ⟨l!.2 ⟨l!.2 ⟨l!.2 ⟨l!.2 ⟨OG,MS⟩,Lz⟩,OF⟩,Ny⟩,Nw⟩,Nx⟩,Nk⟩,Nl⟩,Ni⟩,Nz⟩,Nt⟩,Nr⟩,MT⟩,Nh⟩,MU⟩,Np⟩,N3⟩,N2⟩,Nu⟩,Ng⟩,Ly⟩,OE⟩,Nv⟩,Nf⟩,Nd⟩,Nn⟩,Nq⟩,Nj⟩,Ns⟩,N1⟩,N0⟩
end Go.Proofs.YtpagkickoiafkaaGreat
