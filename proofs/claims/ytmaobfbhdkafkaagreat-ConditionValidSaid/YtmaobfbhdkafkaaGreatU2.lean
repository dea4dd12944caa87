/- Lemmas. -/
import Derived.Test.YtmaobfbhdkafkaaGreatRows
import Derived.JoinedOf
import Derived.JoinedAt
import Derived.Handed
set_option maxRecDepth 100000
namespace Go.Proofs.YtmaobfbhdkafkaaGreat
open Go Go.Proofs.Tryz
theorem conditionValid_wf:(Rows.conditionValidRow.wf (OpenSpec.ofChange Rows.conditionValidSpec))=true:=by kernel_rfl
theorem conditionValid_laid:(laidOutB prog)=true:=by kernel_rfl
theorem conditionValid_rowed:(mapsRowed prog)=true:=by kernel_rfl
theorem conditionValid_rd:(f3.params.all (prog.readableRec ·))=true:=by kernel_rfl
theorem conditionValid_tie:(namedTie prog Rows.conditionValidRow.named Rows.conditionValidSpec.vars)=true:=by kernel_rfl
theorem conditionValid_sta:(Rows.conditionValidRow.stops==[])=true:=by kernel_rfl
theorem conditionValid_stb:(prog.stops==[])=true:=by kernel_rfl
theorem conditionValid_kna:(Rows.conditionValidRow.knobs==[])=true:=by kernel_rfl
theorem conditionValid_knb:(prog.stopKnobs==[])=true:=by kernel_rfl
theorem conditionValid_inp:(Rows.conditionValidRow.inPlace==prog.inPlace 3)=true:=by kernel_rfl
theorem conditionValid_unf:(Rows.conditionValidRow.unfollowed==prog.unfollowed 3)=true:=by kernel_rfl
theorem conditionValid_rec:(Rows.conditionValidRow.recurses==prog.recurses 3)=true:=by kernel_rfl
theorem conditionValid_nam:(Rows.conditionValidRow.named==prog.varsNamed 3)=true:=by kernel_rfl
theorem conditionValid_maps:(Rows.conditionValidRow.maps==(f3.params.toList++Rows.conditionValidSpec.plain.varTypes prog).any (prog.mapsRec ·))=true:=by kernel_rfl
theorem conditionValid_ifs:(Rows.conditionValidRow.ifaces==(f3.params.toList++Rows.conditionValidSpec.plain.varTypes prog).any (prog.ifacesRec ·))=true:=by kernel_rfl
theorem conditionValid_mout:(Rows.conditionValidRow.mapsOut==prog.mapsAmong f3.resultTypes.toList)=true:=by kernel_rfl
theorem conditionValid_loo:(Rows.conditionValidRow.loops==(f3.params.toList++Rows.conditionValidSpec.plain.varTypes prog).any (prog.loopsFrom ·))=true:=by kernel_rfl
theorem conditionValid_wid:(Rows.conditionValidRow.wideKeys==(f3.params.toList++Rows.conditionValidSpec.plain.varTypes prog++f3.resultTypes.toList).any (prog.wideKeysFrom ·))=true:=by kernel_rfl
theorem conditionValid_vrd:(Rows.conditionValidSpec.vars.all (prog.varReadable ·))=true:=by kernel_rfl
theorem conditionValid_rrd:(f3.resultTypes.all (fun t=>prog.readableRec t&&decide (t<prog.types.size)))=true:=by kernel_rfl
theorem conditionValid_ifo:(Rows.conditionValidRow.ifacesOut==f3.resultTypes.toList.any (prog.ifacesRec ·))=true:=by kernel_rfl
theorem conditionValid_loout:(Rows.conditionValidRow.loopsOut==f3.resultTypes.toList.any (prog.loopsFrom ·))=true:=by kernel_rfl
theorem conditionValid_pk:(Rows.conditionValidRow.plainKeys==prog.plainKeys)=true:=by kernel_rfl
theorem conditionValid_sht:(Rows.conditionValidRow.shortTexts.isNone)=true:=by kernel_rfl
theorem conditionValid_hrd:(prog.stopsHeard)=true:=by kernel_rfl
theorem conditionValid_ent:(prog.mayEnter)=true:=by kernel_rfl
theorem conditionValid_lif:(Rows.conditionValidRow.lifted==prog.liftsFinal)=true:=by kernel_rfl
theorem conditionValid_mak:(prog.make==some Rows.conditionValidRow.make)=true:=by kernel_rfl
theorem conditionValid_kin:(Rows.conditionValidRow.kinds==(if Rows.conditionValidRow.domain.isEmpty then [] else f3.params.toList.map fun t=>match prog.underlying t with | some (.int k)=>some k | _=>none))=true:=by kernel_rfl
theorem conditionValid_pin:(Rows.conditionValidRow.pinned==Rows.conditionValidRow.pinnedBy)=true:=by kernel_rfl
theorem conditionValid_vei:(Rows.conditionValidRow.veiled==(f3.params.toList++Rows.conditionValidSpec.plain.varTypes prog++f3.resultTypes.toList).any (prog.veiledRec ·))=true:=by kernel_rfl
theorem conditionValid_vef:(Rows.conditionValidRow.veiledFits prog f3.params.toList (f3.params.toList++Rows.conditionValidSpec.plain.varTypes prog++f3.resultTypes.toList))=true:=by kernel_rfl
theorem conditionValidNamed:prog.funcNamed Rows.conditionValidRow.func=some 3:=by kernel_rfl
theorem conditionValidFacts:joinedFacts prog 3 f3 Rows.conditionValidSpec Rows.conditionValidRow=true:=
 Bool.and_eq_true_iff.2 ⟨Bool.and_eq_true_iff.2 ⟨Bool.and_eq_true_iff.2 ⟨Bool.and_eq_true_iff.2 ⟨Bool.and_eq_true_iff.2 ⟨Bool.and_eq_true_iff.2 ⟨Bool.and_eq_true_iff.2 ⟨Bool.and_eq_true_iff.2 ⟨Bool.and_eq_true_iff.2 ⟨Bool.and_eq_true_iff.2 ⟨Bool.and_eq_true_iff.2 ⟨Bool.and_eq_true_iff.2 ⟨Bool.and_eq_true_iff.2 ⟨Bool.and_eq_true_iff.2 ⟨Bool.and_eq_true_iff.2 ⟨Bool.and_eq_true_iff.2 ⟨Bool.and_eq_true_iff.2 ⟨Bool.and_eq_true_iff.2 ⟨Bool.and_eq_true_iff.2 ⟨Bool.and_eq_true_iff.2 ⟨Bool.and_eq_true_iff.2 ⟨Bool.and_eq_true_iff.2 ⟨Bool.and_eq_true_iff.2 ⟨Bool.and_eq_true_iff.2 ⟨Bool.and_eq_true_iff.2 ⟨Bool.and_eq_true_iff.2 ⟨Bool.and_eq_true_iff.2 ⟨Bool.and_eq_true_iff.2 ⟨Bool.and_eq_true_iff.2 ⟨Bool.and_eq_true_iff.2 ⟨Bool.and_eq_true_iff.2 ⟨conditionValid_wf,conditionValid_laid⟩,conditionValid_rowed⟩,conditionValid_rd⟩,conditionValid_tie⟩,conditionValid_sta⟩,conditionValid_stb⟩,conditionValid_kna⟩,conditionValid_knb⟩,conditionValid_inp⟩,conditionValid_unf⟩,conditionValid_rec⟩,conditionValid_nam⟩,conditionValid_maps⟩,conditionValid_ifs⟩,conditionValid_mout⟩,conditionValid_loo⟩,conditionValid_wid⟩,conditionValid_vrd⟩,conditionValid_rrd⟩,conditionValid_ifo⟩,conditionValid_loout⟩,conditionValid_pk⟩,conditionValid_sht⟩,conditionValid_hrd⟩,conditionValid_ent⟩,conditionValid_lif⟩,conditionValid_mak⟩,conditionValid_kin⟩,conditionValid_pin⟩,conditionValid_vei⟩,conditionValid_vef⟩
end Go.Proofs.YtmaobfbhdkafkaaGreat
