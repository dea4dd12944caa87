/- Lemmas. -/
import Derived.Test.YtmaobfbhdkafkaaGreatRows
import Derived.JoinedOf
import Derived.JoinedAt
import Derived.Handed
set_option maxRecDepth 100000
namespace Go.Proofs.YtmaobfbhdkafkaaGreat
open Go Go.Proofs.Tryz
theorem conditionSimplify_wf:(Rows.conditionSimplifyRow.wf (OpenSpec.ofChange Rows.conditionSimplifySpec))=true:=by kernel_rfl
theorem conditionSimplify_laid:(laidOutB prog)=true:=by kernel_rfl
theorem conditionSimplify_rowed:(mapsRowed prog)=true:=by kernel_rfl
theorem conditionSimplify_rd:(f9.params.all (prog.readableRec ·))=true:=by kernel_rfl
theorem conditionSimplify_tie:(namedTie prog Rows.conditionSimplifyRow.named Rows.conditionSimplifySpec.vars)=true:=by kernel_rfl
theorem conditionSimplify_sta:(Rows.conditionSimplifyRow.stops==[])=true:=by kernel_rfl
theorem conditionSimplify_stb:(prog.stops==[])=true:=by kernel_rfl
theorem conditionSimplify_kna:(Rows.conditionSimplifyRow.knobs==[])=true:=by kernel_rfl
theorem conditionSimplify_knb:(prog.stopKnobs==[])=true:=by kernel_rfl
theorem conditionSimplify_inp:(Rows.conditionSimplifyRow.inPlace==prog.inPlace 9)=true:=by kernel_rfl
theorem conditionSimplify_unf:(Rows.conditionSimplifyRow.unfollowed==prog.unfollowed 9)=true:=by kernel_rfl
theorem conditionSimplify_rec:(Rows.conditionSimplifyRow.recurses==prog.recurses 9)=true:=by kernel_rfl
theorem conditionSimplify_nam:(Rows.conditionSimplifyRow.named==prog.varsNamed 9)=true:=by kernel_rfl
theorem conditionSimplify_maps:(Rows.conditionSimplifyRow.maps==(f9.params.toList++Rows.conditionSimplifySpec.plain.varTypes prog).any (prog.mapsRec ·))=true:=by kernel_rfl
theorem conditionSimplify_ifs:(Rows.conditionSimplifyRow.ifaces==(f9.params.toList++Rows.conditionSimplifySpec.plain.varTypes prog).any (prog.ifacesRec ·))=true:=by kernel_rfl
theorem conditionSimplify_mout:(Rows.conditionSimplifyRow.mapsOut==prog.mapsAmong f9.resultTypes.toList)=true:=by kernel_rfl
theorem conditionSimplify_loo:(Rows.conditionSimplifyRow.loops==(f9.params.toList++Rows.conditionSimplifySpec.plain.varTypes prog).any (prog.loopsFrom ·))=true:=by kernel_rfl
theorem conditionSimplify_wid:(Rows.conditionSimplifyRow.wideKeys==(f9.params.toList++Rows.conditionSimplifySpec.plain.varTypes prog++f9.resultTypes.toList).any (prog.wideKeysFrom ·))=true:=by kernel_rfl
theorem conditionSimplify_vrd:(Rows.conditionSimplifySpec.vars.all (prog.varReadable ·))=true:=by kernel_rfl
theorem conditionSimplify_rrd:(f9.resultTypes.all (fun t=>prog.readableRec t&&decide (t<prog.types.size)))=true:=by kernel_rfl
theorem conditionSimplify_ifo:(Rows.conditionSimplifyRow.ifacesOut==f9.resultTypes.toList.any (prog.ifacesRec ·))=true:=by kernel_rfl
theorem conditionSimplify_loout:(Rows.conditionSimplifyRow.loopsOut==f9.resultTypes.toList.any (prog.loopsFrom ·))=true:=by kernel_rfl
theorem conditionSimplify_pk:(Rows.conditionSimplifyRow.plainKeys==prog.plainKeys)=true:=by kernel_rfl
theorem conditionSimplify_sht:(Rows.conditionSimplifyRow.shortTexts.isNone)=true:=by kernel_rfl
theorem conditionSimplify_hrd:(prog.stopsHeard)=true:=by kernel_rfl
theorem conditionSimplify_ent:(prog.mayEnter)=true:=by kernel_rfl
theorem conditionSimplify_lif:(Rows.conditionSimplifyRow.lifted==prog.liftsFinal)=true:=by kernel_rfl
theorem conditionSimplify_mak:(prog.make==some Rows.conditionSimplifyRow.make)=true:=by kernel_rfl
theorem conditionSimplify_kin:(Rows.conditionSimplifyRow.kinds==(if Rows.conditionSimplifyRow.domain.isEmpty then [] else f9.params.toList.map fun t=>match prog.underlying t with | some (.int k)=>some k | _=>none))=true:=by kernel_rfl
theorem conditionSimplify_pin:(Rows.conditionSimplifyRow.pinned==Rows.conditionSimplifyRow.pinnedBy)=true:=by kernel_rfl
theorem conditionSimplify_vei:(Rows.conditionSimplifyRow.veiled==(f9.params.toList++Rows.conditionSimplifySpec.plain.varTypes prog++f9.resultTypes.toList).any (prog.veiledRec ·))=true:=by kernel_rfl
theorem conditionSimplify_vef:(Rows.conditionSimplifyRow.veiledFits prog f9.params.toList (f9.params.toList++Rows.conditionSimplifySpec.plain.varTypes prog++f9.resultTypes.toList))=true:=by kernel_rfl
theorem conditionSimplifyNamed:prog.funcNamed Rows.conditionSimplifyRow.func=some 9:=by kernel_rfl
theorem conditionSimplifyFacts:joinedFacts prog 9 f9 Rows.conditionSimplifySpec Rows.conditionSimplifyRow=true:=
 Bool.and_eq_true_iff.2 ⟨Bool.and_eq_true_iff.2 ⟨Bool.and_eq_true_iff.2 ⟨Bool.and_eq_true_iff.2 ⟨Bool.and_eq_true_iff.2 ⟨Bool.and_eq_true_iff.2 ⟨Bool.and_eq_true_iff.2 ⟨Bool.and_eq_true_iff.2 ⟨Bool.and_eq_true_iff.2 ⟨Bool.and_eq_true_iff.2 ⟨Bool.and_eq_true_iff.2 ⟨Bool.and_eq_true_iff.2 ⟨Bool.and_eq_true_iff.2 ⟨Bool.and_eq_true_iff.2 ⟨Bool.and_eq_true_iff.2 ⟨Bool.and_eq_true_iff.2 ⟨Bool.and_eq_true_iff.2 ⟨Bool.and_eq_true_iff.2 ⟨Bool.and_eq_true_iff.2 ⟨Bool.and_eq_true_iff.2 ⟨Bool.and_eq_true_iff.2 ⟨Bool.and_eq_true_iff.2 ⟨Bool.and_eq_true_iff.2 ⟨Bool.and_eq_true_iff.2 ⟨Bool.and_eq_true_iff.2 ⟨Bool.and_eq_true_iff.2 ⟨Bool.and_eq_true_iff.2 ⟨Bool.and_eq_true_iff.2 ⟨Bool.and_eq_true_iff.2 ⟨Bool.and_eq_true_iff.2 ⟨Bool.and_eq_true_iff.2 ⟨conditionSimplify_wf,conditionSimplify_laid⟩,conditionSimplify_rowed⟩,conditionSimplify_rd⟩,conditionSimplify_tie⟩,conditionSimplify_sta⟩,conditionSimplify_stb⟩,conditionSimplify_kna⟩,conditionSimplify_knb⟩,conditionSimplify_inp⟩,conditionSimplify_unf⟩,conditionSimplify_rec⟩,conditionSimplify_nam⟩,conditionSimplify_maps⟩,conditionSimplify_ifs⟩,conditionSimplify_mout⟩,conditionSimplify_loo⟩,conditionSimplify_wid⟩,conditionSimplify_vrd⟩,conditionSimplify_rrd⟩,conditionSimplify_ifo⟩,conditionSimplify_loout⟩,conditionSimplify_pk⟩,conditionSimplify_sht⟩,conditionSimplify_hrd⟩,conditionSimplify_ent⟩,conditionSimplify_lif⟩,conditionSimplify_mak⟩,conditionSimplify_kin⟩,conditionSimplify_pin⟩,conditionSimplify_vei⟩,conditionSimplify_vef⟩
end Go.Proofs.YtmaobfbhdkafkaaGreat
