/-
  No cell of these rows narrows 'for every input' (looked for: loops, veiled, ifaces, maps, wideKeys, modest, calm, conditions, laid).
  DERIVED. THE GIVEN ROWS OF THIS SEAT. 3 by the template 'for every input the law returns true; each argument reads behind the call as it read before'; 0 by the template 'total and deterministic' (their statements: YtbmgmpeimdomoaaGreatTotals.lean).
  GIVEN WITH THE SEED: the statements are not yours to turn. If you find one false, say at which input.
  Laid BY PROGRAM, IN A SANDBOX (cutbox-rows.mjs): the forced cells as the released guide's own fill.sh prints them over the translation fd6870f38518d996… (all of the seat's roots in one cut). By AI agents, Wed Nov 11 2026. No macro, syntax, notation, axiom, sorry.
-/
import Derived.Test.YtbmgmpeimdomoaaGreatChecked
import GoSem.Claim
import GoSem.ClaimJoined
import GoSem.ClaimMapViews
import Derived.JoinedTies
import Derived.KernelRfl
namespace Go.Proofs.YtbmgmpeimdomoaaGreat
/- THE CELL 'sum', in the pinned program and in every row, IS THE sha256 OF THE DUMP (.gsa) THAT YtbmgmpeimdomoaaGreatProg.lean LOADS. Nothing in Lean hashes anything: it is a label: what it is worth is what the hold of that sum in a sandbox is worth. -/
noncomputable def Tryz.pinned : Pinned := { name := "ytbmgmpeimdomoaagreat", sum := "fd6870f38518d99638e870562cb64c1cbb83e6769e0d9ebe76c94517c465943f", checked := Tryz.checked }
namespace Rows
def none {H : Type} : Left H := { results := [], args := [] }

/-- 'scarfjointlaw54.TranslateBuilt': WHATEVER THE INPUT: true; the input reads as it did. -/
def translateBuiltSpec : ChangeSpec := { name := "translateBuilt", fn := fun _ => fun
  | [d] => { results := [.lit (.bool true)], args := [d] }
  | _ => none }
def translateBuiltRow : OpenClaim := { program := "ytbmgmpeimdomoaagreat", sum := "fd6870f38518d99638e870562cb64c1cbb83e6769e0d9ebe76c94517c465943f", func := "scarfjoint/scarfjointlaw54.TranslateBuilt", spec := "translateBuilt", inPlace := ["internal/bytealg.IndexByteString", "math/bits.Add64"], unfollowed := true, recurses := true, plainKeys := false, apart := false }
def TranslateBuiltSaid : Prop := translateBuiltRow.holds Tryz.pinned (OpenSpec.ofChange translateBuiltSpec)

/-- ITS FALSE NEIGHBOUR: 'it returns false'. Refute it at one input. -/
def translateBuiltWrong : ChangeSpec := { name := "translateBuilt", fn := fun _ => fun
  | [d] => { results := [.lit (.bool false)], args := [d] }
  | _ => none }
def TranslateBuiltWrongFalsely : Prop := translateBuiltRow.holds Tryz.pinned (OpenSpec.ofChange translateBuiltWrong)

/-- 'scarfjointlaw54.TranslateSides': WHATEVER THE INPUT: true; the input reads as it did. -/
def translateSidesSpec : ChangeSpec := { name := "translateSides", fn := fun _ => fun
  | [d] => { results := [.lit (.bool true)], args := [d] }
  | _ => none }
def translateSidesRow : OpenClaim := { program := "ytbmgmpeimdomoaagreat", sum := "fd6870f38518d99638e870562cb64c1cbb83e6769e0d9ebe76c94517c465943f", func := "scarfjoint/scarfjointlaw54.TranslateSides", spec := "translateSides", inPlace := ["internal/bytealg.IndexByteString", "math/bits.Add64"], unfollowed := true, recurses := true, plainKeys := false, apart := false }
def TranslateSidesSaid : Prop := translateSidesRow.holds Tryz.pinned (OpenSpec.ofChange translateSidesSpec)

/-- ITS FALSE NEIGHBOUR: 'it returns false'. Refute it at one input. -/
def translateSidesWrong : ChangeSpec := { name := "translateSides", fn := fun _ => fun
  | [d] => { results := [.lit (.bool false)], args := [d] }
  | _ => none }
def TranslateSidesWrongFalsely : Prop := translateSidesRow.holds Tryz.pinned (OpenSpec.ofChange translateSidesWrong)

/-- 'scarfjointlaw54.TranslateAgain': WHATEVER THE INPUT: true; the input reads as it did. -/
def translateAgainSpec : ChangeSpec := { name := "translateAgain", fn := fun _ => fun
  | [d] => { results := [.lit (.bool true)], args := [d] }
  | _ => none }
def translateAgainRow : OpenClaim := { program := "ytbmgmpeimdomoaagreat", sum := "fd6870f38518d99638e870562cb64c1cbb83e6769e0d9ebe76c94517c465943f", func := "scarfjoint/scarfjointlaw54.TranslateAgain", spec := "translateAgain", inPlace := ["internal/bytealg.IndexByteString", "math/bits.Add64"], unfollowed := true, recurses := true, plainKeys := false, apart := false }
def TranslateAgainSaid : Prop := translateAgainRow.holds Tryz.pinned (OpenSpec.ofChange translateAgainSpec)

/-- ITS FALSE NEIGHBOUR: 'it returns false'. Refute it at one input. -/
def translateAgainWrong : ChangeSpec := { name := "translateAgain", fn := fun _ => fun
  | [d] => { results := [.lit (.bool false)], args := [d] }
  | _ => none }
def TranslateAgainWrongFalsely : Prop := translateAgainRow.holds Tryz.pinned (OpenSpec.ofChange translateAgainWrong)

/- THE SECOND FORM. 'bulk': how many values and letters a reading holds, each counted each time it is reached (what is shared counts as often as it is met; a slice's spare places count too). A statement '..UptoSaid' is the law's where the arguments, and the package variables that the reading takes, are together of bulk at most 1048576: NARROWER than '..Said'. Prove '..Said' where nothing that the law and all that it calls make is longer than what came in: it says more and counts as full. Else prove '..UptoSaid'. A law counts once. -/
mutual
def uptoBulk {H : Type} : DataW H → Nat
  | .lit (.string bytes) => bytes.length + 1
  | .lit _ => 1
  | .nil => 1
  | .ptr d => uptoBulk d + 1
  | .slice elems spare => uptoBulkAll elems + uptoBulkAll spare + 1
  | .agg parts => uptoBulkAll parts + 1
  | .iface _ d => uptoBulk d + 1
  | .map entries => uptoBulkEntries entries + 1
  | .held _ => 1
def uptoBulkAll {H : Type} : List (DataW H) → Nat
  | [] => 0
  | d :: r => uptoBulk d + uptoBulkAll r
def uptoBulkEntries {H : Type} : List (Lit × DataW H) → Nat
  | [] => 0
  | x :: r => uptoBulkEntry x + uptoBulkEntries r
def uptoBulkEntry {H : Type} : Lit × DataW H → Nat
  | (.string bytes, d) => bytes.length + uptoBulk d + 1
  | (_, d) => uptoBulk d + 1
 end
def uptoSmall : (H : Type) → List (DataW H) → Bool := fun _ ds => decide (uptoBulkAll ds ≤ 1048576)
def OpenSpec.upto (s : _root_.Go.ChangeSpec) : _root_.Go.OpenSpec := { _root_.Go.OpenSpec.ofChange s with cond := some uptoSmall }

/-- 'scarfjointlaw54.TranslateBuilt', WHERE WHAT IT READS IS OF BULK AT MOST 1048576: true; the input reads as it did. -/
def translateBuiltUptoRow : OpenClaim := { program := "ytbmgmpeimdomoaagreat", sum := "fd6870f38518d99638e870562cb64c1cbb83e6769e0d9ebe76c94517c465943f", func := "scarfjoint/scarfjointlaw54.TranslateBuilt", spec := "translateBuilt", inPlace := ["internal/bytealg.IndexByteString", "math/bits.Add64"], unfollowed := true, recurses := true, plainKeys := false, apart := false, narrowed := true }
def TranslateBuiltUptoSaid : Prop := translateBuiltUptoRow.holds Tryz.pinned (OpenSpec.upto translateBuiltSpec)

/-- 'scarfjointlaw54.TranslateSides', WHERE WHAT IT READS IS OF BULK AT MOST 1048576: true; the input reads as it did. -/
def translateSidesUptoRow : OpenClaim := { program := "ytbmgmpeimdomoaagreat", sum := "fd6870f38518d99638e870562cb64c1cbb83e6769e0d9ebe76c94517c465943f", func := "scarfjoint/scarfjointlaw54.TranslateSides", spec := "translateSides", inPlace := ["internal/bytealg.IndexByteString", "math/bits.Add64"], unfollowed := true, recurses := true, plainKeys := false, apart := false, narrowed := true }
def TranslateSidesUptoSaid : Prop := translateSidesUptoRow.holds Tryz.pinned (OpenSpec.upto translateSidesSpec)

/-- 'scarfjointlaw54.TranslateAgain', WHERE WHAT IT READS IS OF BULK AT MOST 1048576: true; the input reads as it did. -/
def translateAgainUptoRow : OpenClaim := { program := "ytbmgmpeimdomoaagreat", sum := "fd6870f38518d99638e870562cb64c1cbb83e6769e0d9ebe76c94517c465943f", func := "scarfjoint/scarfjointlaw54.TranslateAgain", spec := "translateAgain", inPlace := ["internal/bytealg.IndexByteString", "math/bits.Add64"], unfollowed := true, recurses := true, plainKeys := false, apart := false, narrowed := true }
def TranslateAgainUptoSaid : Prop := translateAgainUptoRow.holds Tryz.pinned (OpenSpec.upto translateAgainSpec)

end Rows
end Go.Proofs.YtbmgmpeimdomoaaGreat
