/-
  NARROWER THAN 'FOR EVERY INPUT', by the rows' own cells (each row's printed sentence says how): ConditionValid: loops · ConditionSatisfies: loops · ConditionWitness: loops · ConditionCheck: loops · ConditionSimplify: loops.
  DERIVED. THE GIVEN ROWS OF THIS SEAT. 8 by the template 'for every input the law returns true; each argument reads behind the call as it read before'; 0 by the template 'total and deterministic' (their statements: YtmaobfbhdkafkaaGreatTotals.lean).
  GIVEN WITH THE SEED: the statements are not yours to turn. If you find one false, say at which input.
  Laid BY PROGRAM, IN A SANDBOX (cutbox-rows.mjs): the forced cells as the released guide's own fill.sh prints them over the translation 80c28b9d7c1ff3b9… (all of the seat's roots in one cut). By AI agents, Wed Nov 11 2026. No macro, syntax, notation, axiom, sorry.
-/
import Derived.Test.YtmaobfbhdkafkaaGreatChecked
import GoSem.Claim
import GoSem.ClaimJoined
import GoSem.ClaimMapViews
import Derived.JoinedTies
import Derived.KernelRfl
namespace Go.Proofs.YtmaobfbhdkafkaaGreat
/- THE CELL 'sum', in the pinned program and in every row, IS THE sha256 OF THE DUMP (.gsa) THAT YtmaobfbhdkafkaaGreatProg.lean LOADS. Nothing in Lean hashes anything: it is a label: what it is worth is what the hold of that sum in a sandbox is worth. -/
noncomputable def Tryz.pinned : Pinned := { name := "ytmaobfbhdkafkaagreat", sum := "80c28b9d7c1ff3b932974233901769944bcf5f85e057323979f50c2515be5a28", checked := Tryz.checked }
namespace Rows
def none {H : Type} : Left H := { results := [], args := [] }

/-- 'scarfjointlaw22.ConditionValid': WHATEVER THE INPUT: true; the input reads as it did. -/
def conditionValidSpec : ChangeSpec := { name := "conditionValid", fn := fun _ => fun
  | [d1, d2] => { results := [.lit (.bool true)], args := [d1, d2] }
  | _ => none }
def conditionValidRow : OpenClaim := { program := "ytmaobfbhdkafkaagreat", sum := "80c28b9d7c1ff3b932974233901769944bcf5f85e057323979f50c2515be5a28", func := "scarfjoint/scarfjointlaw22.ConditionValid", spec := "conditionValid", inPlace := ["internal/bytealg.IndexByteString", "math/bits.Add64"], unfollowed := true, recurses := true, loops := true, apart := false }
def ConditionValidSaid : Prop := conditionValidRow.holds Tryz.pinned (OpenSpec.ofChange conditionValidSpec)

/-- ITS FALSE NEIGHBOUR: 'it returns false'. Refute it at one input. -/
def conditionValidWrong : ChangeSpec := { name := "conditionValid", fn := fun _ => fun
  | [d1, d2] => { results := [.lit (.bool false)], args := [d1, d2] }
  | _ => none }
def ConditionValidWrongFalsely : Prop := conditionValidRow.holds Tryz.pinned (OpenSpec.ofChange conditionValidWrong)

/-- 'scarfjointlaw22.ConditionSatisfies': WHATEVER THE INPUT: true; the input reads as it did. -/
def conditionSatisfiesSpec : ChangeSpec := { name := "conditionSatisfies", fn := fun _ => fun
  | [d1, d2, d3] => { results := [.lit (.bool true)], args := [d1, d2, d3] }
  | _ => none }
def conditionSatisfiesRow : OpenClaim := { program := "ytmaobfbhdkafkaagreat", sum := "80c28b9d7c1ff3b932974233901769944bcf5f85e057323979f50c2515be5a28", func := "scarfjoint/scarfjointlaw22.ConditionSatisfies", spec := "conditionSatisfies", inPlace := ["internal/bytealg.IndexByteString", "math/bits.Add64"], unfollowed := true, recurses := true, loops := true, apart := false }
def ConditionSatisfiesSaid : Prop := conditionSatisfiesRow.holds Tryz.pinned (OpenSpec.ofChange conditionSatisfiesSpec)

/-- ITS FALSE NEIGHBOUR: 'it returns false'. Refute it at one input. -/
def conditionSatisfiesWrong : ChangeSpec := { name := "conditionSatisfies", fn := fun _ => fun
  | [d1, d2, d3] => { results := [.lit (.bool false)], args := [d1, d2, d3] }
  | _ => none }
def ConditionSatisfiesWrongFalsely : Prop := conditionSatisfiesRow.holds Tryz.pinned (OpenSpec.ofChange conditionSatisfiesWrong)

/-- 'scarfjointlaw22.ConditionWitness': WHATEVER THE INPUT: true; the input reads as it did. -/
def conditionWitnessSpec : ChangeSpec := { name := "conditionWitness", fn := fun _ => fun
  | [d1, d2, d3] => { results := [.lit (.bool true)], args := [d1, d2, d3] }
  | _ => none }
def conditionWitnessRow : OpenClaim := { program := "ytmaobfbhdkafkaagreat", sum := "80c28b9d7c1ff3b932974233901769944bcf5f85e057323979f50c2515be5a28", func := "scarfjoint/scarfjointlaw22.ConditionWitness", spec := "conditionWitness", inPlace := ["internal/bytealg.IndexByteString", "math/bits.Add64"], unfollowed := true, recurses := true, loops := true, apart := false }
def ConditionWitnessSaid : Prop := conditionWitnessRow.holds Tryz.pinned (OpenSpec.ofChange conditionWitnessSpec)

/-- ITS FALSE NEIGHBOUR: 'it returns false'. Refute it at one input. -/
def conditionWitnessWrong : ChangeSpec := { name := "conditionWitness", fn := fun _ => fun
  | [d1, d2, d3] => { results := [.lit (.bool false)], args := [d1, d2, d3] }
  | _ => none }
def ConditionWitnessWrongFalsely : Prop := conditionWitnessRow.holds Tryz.pinned (OpenSpec.ofChange conditionWitnessWrong)

/-- 'scarfjointlaw22.ConditionCheck': WHATEVER THE INPUT: true; the input reads as it did. -/
def conditionCheckSpec : ChangeSpec := { name := "conditionCheck", fn := fun _ => fun
  | [d1, d2, d3] => { results := [.lit (.bool true)], args := [d1, d2, d3] }
  | _ => none }
def conditionCheckRow : OpenClaim := { program := "ytmaobfbhdkafkaagreat", sum := "80c28b9d7c1ff3b932974233901769944bcf5f85e057323979f50c2515be5a28", func := "scarfjoint/scarfjointlaw22.ConditionCheck", spec := "conditionCheck", inPlace := ["internal/bytealg.IndexByteString", "math/bits.Add64"], unfollowed := true, recurses := true, loops := true, apart := false }
def ConditionCheckSaid : Prop := conditionCheckRow.holds Tryz.pinned (OpenSpec.ofChange conditionCheckSpec)

/-- ITS FALSE NEIGHBOUR: 'it returns false'. Refute it at one input. -/
def conditionCheckWrong : ChangeSpec := { name := "conditionCheck", fn := fun _ => fun
  | [d1, d2, d3] => { results := [.lit (.bool false)], args := [d1, d2, d3] }
  | _ => none }
def ConditionCheckWrongFalsely : Prop := conditionCheckRow.holds Tryz.pinned (OpenSpec.ofChange conditionCheckWrong)

/-- 'scarfjointlaw22.ConditionBoolean': WHATEVER THE INPUT: true; the input reads as it did. -/
def conditionBooleanSpec : ChangeSpec := { name := "conditionBoolean", fn := fun _ => fun
  | [d1, d2] => { results := [.lit (.bool true)], args := [d1, d2] }
  | _ => none }
def conditionBooleanRow : OpenClaim := { program := "ytmaobfbhdkafkaagreat", sum := "80c28b9d7c1ff3b932974233901769944bcf5f85e057323979f50c2515be5a28", func := "scarfjoint/scarfjointlaw22.ConditionBoolean", spec := "conditionBoolean", inPlace := ["internal/bytealg.IndexByteString", "math/bits.Add64"], unfollowed := true, recurses := true, apart := false }
def ConditionBooleanSaid : Prop := conditionBooleanRow.holds Tryz.pinned (OpenSpec.ofChange conditionBooleanSpec)

/-- ITS FALSE NEIGHBOUR: 'it returns false'. Refute it at one input. -/
def conditionBooleanWrong : ChangeSpec := { name := "conditionBoolean", fn := fun _ => fun
  | [d1, d2] => { results := [.lit (.bool false)], args := [d1, d2] }
  | _ => none }
def ConditionBooleanWrongFalsely : Prop := conditionBooleanRow.holds Tryz.pinned (OpenSpec.ofChange conditionBooleanWrong)

/-- 'scarfjointlaw22.ConditionExtends': WHATEVER THE INPUT: true; the input reads as it did. -/
def conditionExtendsSpec : ChangeSpec := { name := "conditionExtends", fn := fun _ => fun
  | [d1, d2] => { results := [.lit (.bool true)], args := [d1, d2] }
  | _ => none }
def conditionExtendsRow : OpenClaim := { program := "ytmaobfbhdkafkaagreat", sum := "80c28b9d7c1ff3b932974233901769944bcf5f85e057323979f50c2515be5a28", func := "scarfjoint/scarfjointlaw22.ConditionExtends", spec := "conditionExtends", inPlace := ["internal/bytealg.IndexByteString", "math/bits.Add64"], unfollowed := true, recurses := true, apart := false }
def ConditionExtendsSaid : Prop := conditionExtendsRow.holds Tryz.pinned (OpenSpec.ofChange conditionExtendsSpec)

/-- ITS FALSE NEIGHBOUR: 'it returns false'. Refute it at one input. -/
def conditionExtendsWrong : ChangeSpec := { name := "conditionExtends", fn := fun _ => fun
  | [d1, d2] => { results := [.lit (.bool false)], args := [d1, d2] }
  | _ => none }
def ConditionExtendsWrongFalsely : Prop := conditionExtendsRow.holds Tryz.pinned (OpenSpec.ofChange conditionExtendsWrong)

/-- 'scarfjointlaw22.ConditionSimplify': WHATEVER THE INPUT: true; the input reads as it did. -/
def conditionSimplifySpec : ChangeSpec := { name := "conditionSimplify", fn := fun _ => fun
  | [d1, d2] => { results := [.lit (.bool true)], args := [d1, d2] }
  | _ => none }
def conditionSimplifyRow : OpenClaim := { program := "ytmaobfbhdkafkaagreat", sum := "80c28b9d7c1ff3b932974233901769944bcf5f85e057323979f50c2515be5a28", func := "scarfjoint/scarfjointlaw22.ConditionSimplify", spec := "conditionSimplify", inPlace := ["internal/bytealg.IndexByteString", "math/bits.Add64"], unfollowed := true, recurses := true, loops := true, apart := false }
def ConditionSimplifySaid : Prop := conditionSimplifyRow.holds Tryz.pinned (OpenSpec.ofChange conditionSimplifySpec)

/-- ITS FALSE NEIGHBOUR: 'it returns false'. Refute it at one input. -/
def conditionSimplifyWrong : ChangeSpec := { name := "conditionSimplify", fn := fun _ => fun
  | [d1, d2] => { results := [.lit (.bool false)], args := [d1, d2] }
  | _ => none }
def ConditionSimplifyWrongFalsely : Prop := conditionSimplifyRow.holds Tryz.pinned (OpenSpec.ofChange conditionSimplifyWrong)

/-- 'scarfjointlaw22.ConditionSimplified': WHATEVER THE INPUT: true; the input reads as it did. -/
def conditionSimplifiedSpec : ChangeSpec := { name := "conditionSimplified", fn := fun _ => fun
  | [d1, d2] => { results := [.lit (.bool true)], args := [d1, d2] }
  | _ => none }
def conditionSimplifiedRow : OpenClaim := { program := "ytmaobfbhdkafkaagreat", sum := "80c28b9d7c1ff3b932974233901769944bcf5f85e057323979f50c2515be5a28", func := "scarfjoint/scarfjointlaw22.ConditionSimplified", spec := "conditionSimplified", inPlace := ["internal/bytealg.IndexByteString", "math/bits.Add64"], unfollowed := true, recurses := true, apart := false }
def ConditionSimplifiedSaid : Prop := conditionSimplifiedRow.holds Tryz.pinned (OpenSpec.ofChange conditionSimplifiedSpec)

/-- ITS FALSE NEIGHBOUR: 'it returns false'. Refute it at one input. -/
def conditionSimplifiedWrong : ChangeSpec := { name := "conditionSimplified", fn := fun _ => fun
  | [d1, d2] => { results := [.lit (.bool false)], args := [d1, d2] }
  | _ => none }
def ConditionSimplifiedWrongFalsely : Prop := conditionSimplifiedRow.holds Tryz.pinned (OpenSpec.ofChange conditionSimplifiedWrong)

/- THE SECOND FORM. 'bulk': how many values and letters a reading holds, each counted each time it is reached (what is shared counts as often as it is met; a slice's spare places count too). A statement '..UptoSaid' is the law's where the arguments, and the package variables that the reading takes, are together of bulk at most 1048576: NARROWER than '..Said'. Prove '..Said' where nothing that the law and all that it calls make is longer than what came in: it says more and counts as full. Else prove '..UptoSaid'. A law counts once. -/
mutual
def uptoBulk {H : Type} : DataW H → Nat
  | .lit (.string bytes) => bytes.length + 1
  | .lit _ => 1
  | .nil => 1
  | .ptr d => uptoBulk d + 1
  | .slice elems spare => uptoBulkAll elems + uptoBulkAll spare + 1
  | .agg parts => uptoBulkAll parts + 1
  | .iface _ d => uptoBulk d + 1
  | .map entries => uptoBulkEntries entries + 1
  | .held _ => 1
def uptoBulkAll {H : Type} : List (DataW H) → Nat
  | [] => 0
  | d :: r => uptoBulk d + uptoBulkAll r
def uptoBulkEntries {H : Type} : List (Lit × DataW H) → Nat
  | [] => 0
  | x :: r => uptoBulkEntry x + uptoBulkEntries r
def uptoBulkEntry {H : Type} : Lit × DataW H → Nat
  | (.string bytes, d) => bytes.length + uptoBulk d + 1
  | (_, d) => uptoBulk d + 1
 end
def uptoSmall : (H : Type) → List (DataW H) → Bool := fun _ ds => decide (uptoBulkAll ds ≤ 1048576)
def OpenSpec.upto (s : _root_.Go.ChangeSpec) : _root_.Go.OpenSpec := { _root_.Go.OpenSpec.ofChange s with cond := some uptoSmall }

/-- 'scarfjointlaw22.ConditionValid', WHERE WHAT IT READS IS OF BULK AT MOST 1048576: true; the input reads as it did. -/
def conditionValidUptoRow : OpenClaim := { program := "ytmaobfbhdkafkaagreat", sum := "80c28b9d7c1ff3b932974233901769944bcf5f85e057323979f50c2515be5a28", func := "scarfjoint/scarfjointlaw22.ConditionValid", spec := "conditionValid", inPlace := ["internal/bytealg.IndexByteString", "math/bits.Add64"], unfollowed := true, recurses := true, loops := true, apart := false, narrowed := true }
def ConditionValidUptoSaid : Prop := conditionValidUptoRow.holds Tryz.pinned (OpenSpec.upto conditionValidSpec)

/-- 'scarfjointlaw22.ConditionSatisfies', WHERE WHAT IT READS IS OF BULK AT MOST 1048576: true; the input reads as it did. -/
def conditionSatisfiesUptoRow : OpenClaim := { program := "ytmaobfbhdkafkaagreat", sum := "80c28b9d7c1ff3b932974233901769944bcf5f85e057323979f50c2515be5a28", func := "scarfjoint/scarfjointlaw22.ConditionSatisfies", spec := "conditionSatisfies", inPlace := ["internal/bytealg.IndexByteString", "math/bits.Add64"], unfollowed := true, recurses := true, loops := true, apart := false, narrowed := true }
def ConditionSatisfiesUptoSaid : Prop := conditionSatisfiesUptoRow.holds Tryz.pinned (OpenSpec.upto conditionSatisfiesSpec)

/-- 'scarfjointlaw22.ConditionWitness', WHERE WHAT IT READS IS OF BULK AT MOST 1048576: true; the input reads as it did. -/
def conditionWitnessUptoRow : OpenClaim := { program := "ytmaobfbhdkafkaagreat", sum := "80c28b9d7c1ff3b932974233901769944bcf5f85e057323979f50c2515be5a28", func := "scarfjoint/scarfjointlaw22.ConditionWitness", spec := "conditionWitness", inPlace := ["internal/bytealg.IndexByteString", "math/bits.Add64"], unfollowed := true, recurses := true, loops := true, apart := false, narrowed := true }
def ConditionWitnessUptoSaid : Prop := conditionWitnessUptoRow.holds Tryz.pinned (OpenSpec.upto conditionWitnessSpec)

/-- 'scarfjointlaw22.ConditionCheck', WHERE WHAT IT READS IS OF BULK AT MOST 1048576: true; the input reads as it did. -/
def conditionCheckUptoRow : OpenClaim := { program := "ytmaobfbhdkafkaagreat", sum := "80c28b9d7c1ff3b932974233901769944bcf5f85e057323979f50c2515be5a28", func := "scarfjoint/scarfjointlaw22.ConditionCheck", spec := "conditionCheck", inPlace := ["internal/bytealg.IndexByteString", "math/bits.Add64"], unfollowed := true, recurses := true, loops := true, apart := false, narrowed := true }
def ConditionCheckUptoSaid : Prop := conditionCheckUptoRow.holds Tryz.pinned (OpenSpec.upto conditionCheckSpec)

/-- 'scarfjointlaw22.ConditionBoolean', WHERE WHAT IT READS IS OF BULK AT MOST 1048576: true; the input reads as it did. -/
def conditionBooleanUptoRow : OpenClaim := { program := "ytmaobfbhdkafkaagreat", sum := "80c28b9d7c1ff3b932974233901769944bcf5f85e057323979f50c2515be5a28", func := "scarfjoint/scarfjointlaw22.ConditionBoolean", spec := "conditionBoolean", inPlace := ["internal/bytealg.IndexByteString", "math/bits.Add64"], unfollowed := true, recurses := true, apart := false, narrowed := true }
def ConditionBooleanUptoSaid : Prop := conditionBooleanUptoRow.holds Tryz.pinned (OpenSpec.upto conditionBooleanSpec)

/-- 'scarfjointlaw22.ConditionExtends', WHERE WHAT IT READS IS OF BULK AT MOST 1048576: true; the input reads as it did. -/
def conditionExtendsUptoRow : OpenClaim := { program := "ytmaobfbhdkafkaagreat", sum := "80c28b9d7c1ff3b932974233901769944bcf5f85e057323979f50c2515be5a28", func := "scarfjoint/scarfjointlaw22.ConditionExtends", spec := "conditionExtends", inPlace := ["internal/bytealg.IndexByteString", "math/bits.Add64"], unfollowed := true, recurses := true, apart := false, narrowed := true }
def ConditionExtendsUptoSaid : Prop := conditionExtendsUptoRow.holds Tryz.pinned (OpenSpec.upto conditionExtendsSpec)

/-- 'scarfjointlaw22.ConditionSimplify', WHERE WHAT IT READS IS OF BULK AT MOST 1048576: true; the input reads as it did. -/
def conditionSimplifyUptoRow : OpenClaim := { program := "ytmaobfbhdkafkaagreat", sum := "80c28b9d7c1ff3b932974233901769944bcf5f85e057323979f50c2515be5a28", func := "scarfjoint/scarfjointlaw22.ConditionSimplify", spec := "conditionSimplify", inPlace := ["internal/bytealg.IndexByteString", "math/bits.Add64"], unfollowed := true, recurses := true, loops := true, apart := false, narrowed := true }
def ConditionSimplifyUptoSaid : Prop := conditionSimplifyUptoRow.holds Tryz.pinned (OpenSpec.upto conditionSimplifySpec)

/-- 'scarfjointlaw22.ConditionSimplified', WHERE WHAT IT READS IS OF BULK AT MOST 1048576: true; the input reads as it did. -/
def conditionSimplifiedUptoRow : OpenClaim := { program := "ytmaobfbhdkafkaagreat", sum := "80c28b9d7c1ff3b932974233901769944bcf5f85e057323979f50c2515be5a28", func := "scarfjoint/scarfjointlaw22.ConditionSimplified", spec := "conditionSimplified", inPlace := ["internal/bytealg.IndexByteString", "math/bits.Add64"], unfollowed := true, recurses := true, apart := false, narrowed := true }
def ConditionSimplifiedUptoSaid : Prop := conditionSimplifiedUptoRow.holds Tryz.pinned (OpenSpec.upto conditionSimplifiedSpec)

end Rows
end Go.Proofs.YtmaobfbhdkafkaaGreat
