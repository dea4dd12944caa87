/- Lemmas. -/
import Derived.Test.YtmaobfbhdkafkaaGreatRows
import Derived.JoinedOf
import Derived.JoinedAt
import Derived.Handed
set_option maxRecDepth 100000
namespace Go.Proofs.YtmaobfbhdkafkaaGreat
open Go Go.Proofs.Tryz
theorem N9:(Rows.conditionSatisfiesRow.wf (OpenSpec.ofChange Rows.conditionSatisfiesSpec))=true:=by kernel_rfl
theorem M8:(laidOutB prog)=true:=by kernel_rfl
theorem Mw:(mapsRowed prog)=true:=by kernel_rfl
theorem N8:(f4.params.all (prog.readableRec ·))=true:=by kernel_rfl
theorem Nt:(namedTie prog Rows.conditionSatisfiesRow.named Rows.conditionSatisfiesSpec.vars)=true:=by kernel_rfl
theorem Nr:(Rows.conditionSatisfiesRow.stops==[])=true:=by kernel_rfl
theorem Ns:(prog.stops==[])=true:=by kernel_rfl
theorem Nf:(Rows.conditionSatisfiesRow.knobs==[])=true:=by kernel_rfl
theorem Ng:(prog.stopKnobs==[])=true:=by kernel_rfl
theorem Nc:(Rows.conditionSatisfiesRow.inPlace==prog.inPlace 4)=true:=by kernel_rfl
theorem Nu:(Rows.conditionSatisfiesRow.unfollowed==prog.unfollowed 4)=true:=by kernel_rfl
theorem Nn:(Rows.conditionSatisfiesRow.recurses==prog.recurses 4)=true:=by kernel_rfl
theorem Nk:(Rows.conditionSatisfiesRow.named==prog.varsNamed 4)=true:=by kernel_rfl
theorem M9:(Rows.conditionSatisfiesRow.maps==(f4.params.toList++Rows.conditionSatisfiesSpec.plain.varTypes prog).any (prog.mapsRec ·))=true:=by kernel_rfl
theorem Nb:(Rows.conditionSatisfiesRow.ifaces==(f4.params.toList++Rows.conditionSatisfiesSpec.plain.varTypes prog).any (prog.ifacesRec ·))=true:=by kernel_rfl
theorem NA:(Rows.conditionSatisfiesRow.mapsOut==prog.mapsAmong f4.resultTypes.toList)=true:=by kernel_rfl
theorem Ni:(Rows.conditionSatisfiesRow.loops==(f4.params.toList++Rows.conditionSatisfiesSpec.plain.varTypes prog).any (prog.loopsFrom ·))=true:=by kernel_rfl
theorem Ny:(Rows.conditionSatisfiesRow.wideKeys==(f4.params.toList++Rows.conditionSatisfiesSpec.plain.varTypes prog++f4.resultTypes.toList).any (prog.wideKeysFrom ·))=true:=by kernel_rfl
theorem Nx:(Rows.conditionSatisfiesSpec.vars.all (prog.varReadable ·))=true:=by kernel_rfl
theorem Np:(f4.resultTypes.all (fun t=>prog.readableRec t&&decide (t<prog.types.size)))=true:=by kernel_rfl
theorem Na:(Rows.conditionSatisfiesRow.ifacesOut==f4.resultTypes.toList.any (prog.ifacesRec ·))=true:=by kernel_rfl
theorem Mv:(Rows.conditionSatisfiesRow.loopsOut==f4.resultTypes.toList.any (prog.loopsFrom ·))=true:=by kernel_rfl
theorem N7:(Rows.conditionSatisfiesRow.plainKeys==prog.plainKeys)=true:=by kernel_rfl
theorem Nq:(Rows.conditionSatisfiesRow.shortTexts.isNone)=true:=by kernel_rfl
theorem NZ:(prog.stopsHeard)=true:=by kernel_rfl
theorem NY:(prog.mayEnter)=true:=by kernel_rfl
theorem Nh:(Rows.conditionSatisfiesRow.lifted==prog.liftsFinal)=true:=by kernel_rfl
theorem Nj:(prog.make==some Rows.conditionSatisfiesRow.make)=true:=by kernel_rfl
theorem Nd:(Rows.conditionSatisfiesRow.kinds==(if Rows.conditionSatisfiesRow.domain.isEmpty then [] else f4.params.toList.map fun t=>match prog.underlying t with | some (.int k)=>some k | _=>none))=true:=by kernel_rfl
theorem Nl:(Rows.conditionSatisfiesRow.pinned==Rows.conditionSatisfiesRow.pinnedBy)=true:=by kernel_rfl
theorem Nw:(Rows.conditionSatisfiesRow.veiled==(f4.params.toList++Rows.conditionSatisfiesSpec.plain.varTypes prog++f4.resultTypes.toList).any (prog.veiledRec ·))=true:=by kernel_rfl
theorem Nv:(Rows.conditionSatisfiesRow.veiledFits prog f4.params.toList (f4.params.toList++Rows.conditionSatisfiesSpec.plain.varTypes prog++f4.resultTypes.toList))=true:=by kernel_rfl
theorem M6:prog.funcNamed Rows.conditionSatisfiesRow.func=some 4:=by kernel_rfl
theorem M5:joinedFacts prog 4 f4 Rows.conditionSatisfiesSpec Rows.conditionSatisfiesRow=true:=
 Bool.and_eq_true_iff.2 ⟨Bool.and_eq_true_iff.2 ⟨Bool.and_eq_true_iff.2 ⟨Bool.and_eq_true_iff.2 ⟨Bool.and_eq_true_iff.2 ⟨Bool.and_eq_true_iff.2 ⟨Bool.and_eq_true_iff.2 ⟨Bool.and_eq_true_iff.2 ⟨Bool.and_eq_true_iff.2 ⟨Bool.and_eq_true_iff.2 ⟨Bool.and_eq_true_iff.2 ⟨Bool.and_eq_true_iff.2 ⟨Bool.and_eq_true_iff.2 ⟨Bool.and_eq_true_iff.2 ⟨Bool.and_eq_true_iff.2 ⟨Bool.and_eq_true_iff.2 ⟨Bool.and_eq_true_iff.2 ⟨Bool.and_eq_true_iff.2 ⟨Bool.and_eq_true_iff.2 ⟨Bool.and_eq_true_iff.2 ⟨Bool.and_eq_true_iff.2 ⟨Bool.and_eq_true_iff.2 ⟨Bool.and_eq_true_iff.2 ⟨Bool.and_eq_true_iff.2 ⟨Bool.and_eq_true_iff.2 ⟨Bool.and_eq_true_iff.2 ⟨Bool.and_eq_true_iff.2 ⟨Bool.and_eq_true_iff.2 ⟨Bool.and_eq_true_iff.2 ⟨Bool.and_eq_true_iff.2 ⟨Bool.and_eq_true_iff.2 ⟨N9,M8⟩,Mw⟩,N8⟩,Nt⟩,Nr⟩,Ns⟩,Nf⟩,Ng⟩,Nc⟩,Nu⟩,Nn⟩,Nk⟩,M9⟩,Nb⟩,NA⟩,Ni⟩,Ny⟩,Nx⟩,Np⟩,Na⟩,Mv⟩,N7⟩,Nq⟩,NZ⟩,NY⟩,Nh⟩,Nj⟩,Nd⟩,Nl⟩,Nw⟩,Nv⟩
end Go.Proofs.YtmaobfbhdkafkaaGreat
