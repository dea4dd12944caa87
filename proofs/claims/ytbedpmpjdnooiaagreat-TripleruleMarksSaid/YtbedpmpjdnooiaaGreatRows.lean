/-
  NARROWER THAN 'FOR EVERY INPUT', by the rows' own cells (each row's printed sentence says how): TripleruleSides: loops · TripleruleForward: loops · TripleruleConsistency: loops.
  DERIVED. THE GIVEN ROWS OF THIS SEAT. 6 by the template 'for every input the law returns true; each argument reads behind the call as it read before'; 0 by the template 'total and deterministic' (their statements: YtbedpmpjdnooiaaGreatTotals.lean).
  GIVEN WITH THE SEED: the statements are not yours to turn. If you find one false, say at which input.
  Laid BY PROGRAM, IN A SANDBOX (cutbox-rows.mjs): the forced cells as the released guide's own fill.sh prints them over the translation bea894c9ce8ea175… (all of the seat's roots in one cut). By AI agents, Wed Nov 11 2026. No macro, syntax, notation, axiom, sorry.
-/
import Derived.Test.YtbedpmpjdnooiaaGreatChecked
import GoSem.Claim
import GoSem.ClaimJoined
import GoSem.ClaimMapViews
import Derived.JoinedTies
import Derived.KernelRfl
namespace Go.Proofs.YtbedpmpjdnooiaaGreat
/- THE CELL 'sum', in the pinned program and in every row, IS THE sha256 OF THE DUMP (.gsa) THAT YtbedpmpjdnooiaaGreatProg.lean LOADS. Nothing in Lean hashes anything: it is a label: what it is worth is what the hold of that sum in a sandbox is worth. -/
noncomputable def Tryz.pinned : Pinned := { name := "ytbedpmpjdnooiaagreat", sum := "bea894c9ce8ea175c6b5b0d86283ad514809043d3176ffb39368bd31a1980731", checked := Tryz.checked }
namespace Rows
def none {H : Type} : Left H := { results := [], args := [] }

/-- 'scarfjointlaw53.TripleruleSides': WHATEVER THE INPUT: true; the input reads as it did. -/
def tripleruleSidesSpec : ChangeSpec := { name := "tripleruleSides", fn := fun _ => fun
  | [d1, d2] => { results := [.lit (.bool true)], args := [d1, d2] }
  | _ => none }
def tripleruleSidesRow : OpenClaim := { program := "ytbedpmpjdnooiaagreat", sum := "bea894c9ce8ea175c6b5b0d86283ad514809043d3176ffb39368bd31a1980731", func := "scarfjoint/scarfjointlaw53.TripleruleSides", spec := "tripleruleSides", inPlace := ["internal/bytealg.IndexByteString"], unfollowed := true, recurses := true, loops := true, apart := false }
def TripleruleSidesSaid : Prop := tripleruleSidesRow.holds Tryz.pinned (OpenSpec.ofChange tripleruleSidesSpec)

/-- ITS FALSE NEIGHBOUR: 'it returns false'. Refute it at one input. -/
def tripleruleSidesWrong : ChangeSpec := { name := "tripleruleSides", fn := fun _ => fun
  | [d1, d2] => { results := [.lit (.bool false)], args := [d1, d2] }
  | _ => none }
def TripleruleSidesWrongFalsely : Prop := tripleruleSidesRow.holds Tryz.pinned (OpenSpec.ofChange tripleruleSidesWrong)

/-- 'scarfjointlaw53.TripleruleForward': WHATEVER THE INPUT: true; the input reads as it did. -/
def tripleruleForwardSpec : ChangeSpec := { name := "tripleruleForward", fn := fun _ => fun
  | [d1, d2] => { results := [.lit (.bool true)], args := [d1, d2] }
  | _ => none }
def tripleruleForwardRow : OpenClaim := { program := "ytbedpmpjdnooiaagreat", sum := "bea894c9ce8ea175c6b5b0d86283ad514809043d3176ffb39368bd31a1980731", func := "scarfjoint/scarfjointlaw53.TripleruleForward", spec := "tripleruleForward", inPlace := ["internal/bytealg.IndexByteString"], unfollowed := true, recurses := true, loops := true, apart := false }
def TripleruleForwardSaid : Prop := tripleruleForwardRow.holds Tryz.pinned (OpenSpec.ofChange tripleruleForwardSpec)

/-- ITS FALSE NEIGHBOUR: 'it returns false'. Refute it at one input. -/
def tripleruleForwardWrong : ChangeSpec := { name := "tripleruleForward", fn := fun _ => fun
  | [d1, d2] => { results := [.lit (.bool false)], args := [d1, d2] }
  | _ => none }
def TripleruleForwardWrongFalsely : Prop := tripleruleForwardRow.holds Tryz.pinned (OpenSpec.ofChange tripleruleForwardWrong)

/-- 'scarfjointlaw53.TripleruleConsistency': WHATEVER THE INPUT: true; the input reads as it did. -/
def tripleruleConsistencySpec : ChangeSpec := { name := "tripleruleConsistency", fn := fun _ => fun
  | [d1, d2] => { results := [.lit (.bool true)], args := [d1, d2] }
  | _ => none }
def tripleruleConsistencyRow : OpenClaim := { program := "ytbedpmpjdnooiaagreat", sum := "bea894c9ce8ea175c6b5b0d86283ad514809043d3176ffb39368bd31a1980731", func := "scarfjoint/scarfjointlaw53.TripleruleConsistency", spec := "tripleruleConsistency", inPlace := ["internal/bytealg.IndexByteString"], unfollowed := true, recurses := true, loops := true, apart := false }
def TripleruleConsistencySaid : Prop := tripleruleConsistencyRow.holds Tryz.pinned (OpenSpec.ofChange tripleruleConsistencySpec)

/-- ITS FALSE NEIGHBOUR: 'it returns false'. Refute it at one input. -/
def tripleruleConsistencyWrong : ChangeSpec := { name := "tripleruleConsistency", fn := fun _ => fun
  | [d1, d2] => { results := [.lit (.bool false)], args := [d1, d2] }
  | _ => none }
def TripleruleConsistencyWrongFalsely : Prop := tripleruleConsistencyRow.holds Tryz.pinned (OpenSpec.ofChange tripleruleConsistencyWrong)

/-- 'scarfjointlaw53.TripleruleMarks': WHATEVER THE INPUT: true; the input reads as it did. -/
def tripleruleMarksSpec : ChangeSpec := { name := "tripleruleMarks", fn := fun _ => fun
  | [d] => { results := [.lit (.bool true)], args := [d] }
  | _ => none }
def tripleruleMarksRow : OpenClaim := { program := "ytbedpmpjdnooiaagreat", sum := "bea894c9ce8ea175c6b5b0d86283ad514809043d3176ffb39368bd31a1980731", func := "scarfjoint/scarfjointlaw53.TripleruleMarks", spec := "tripleruleMarks", inPlace := ["internal/bytealg.IndexByteString"], unfollowed := true, recurses := true, apart := false }
def TripleruleMarksSaid : Prop := tripleruleMarksRow.holds Tryz.pinned (OpenSpec.ofChange tripleruleMarksSpec)

/-- ITS FALSE NEIGHBOUR: 'it returns false'. Refute it at one input. -/
def tripleruleMarksWrong : ChangeSpec := { name := "tripleruleMarks", fn := fun _ => fun
  | [d] => { results := [.lit (.bool false)], args := [d] }
  | _ => none }
def TripleruleMarksWrongFalsely : Prop := tripleruleMarksRow.holds Tryz.pinned (OpenSpec.ofChange tripleruleMarksWrong)

/-- 'scarfjointlaw53.TripleruleSwapped': WHATEVER THE INPUT: true; the input reads as it did. -/
def tripleruleSwappedSpec : ChangeSpec := { name := "tripleruleSwapped", fn := fun _ => fun
  | [d] => { results := [.lit (.bool true)], args := [d] }
  | _ => none }
def tripleruleSwappedRow : OpenClaim := { program := "ytbedpmpjdnooiaagreat", sum := "bea894c9ce8ea175c6b5b0d86283ad514809043d3176ffb39368bd31a1980731", func := "scarfjoint/scarfjointlaw53.TripleruleSwapped", spec := "tripleruleSwapped", inPlace := ["internal/bytealg.IndexByteString"], unfollowed := true, recurses := true, apart := false }
def TripleruleSwappedSaid : Prop := tripleruleSwappedRow.holds Tryz.pinned (OpenSpec.ofChange tripleruleSwappedSpec)

/-- ITS FALSE NEIGHBOUR: 'it returns false'. Refute it at one input. -/
def tripleruleSwappedWrong : ChangeSpec := { name := "tripleruleSwapped", fn := fun _ => fun
  | [d] => { results := [.lit (.bool false)], args := [d] }
  | _ => none }
def TripleruleSwappedWrongFalsely : Prop := tripleruleSwappedRow.holds Tryz.pinned (OpenSpec.ofChange tripleruleSwappedWrong)

/-- 'scarfjointlaw53.TripleruleSame': WHATEVER THE INPUT: true; the input reads as it did. -/
def tripleruleSameSpec : ChangeSpec := { name := "tripleruleSame", fn := fun _ => fun
  | [d] => { results := [.lit (.bool true)], args := [d] }
  | _ => none }
def tripleruleSameRow : OpenClaim := { program := "ytbedpmpjdnooiaagreat", sum := "bea894c9ce8ea175c6b5b0d86283ad514809043d3176ffb39368bd31a1980731", func := "scarfjoint/scarfjointlaw53.TripleruleSame", spec := "tripleruleSame", inPlace := ["internal/bytealg.IndexByteString"], unfollowed := true, recurses := true, apart := false }
def TripleruleSameSaid : Prop := tripleruleSameRow.holds Tryz.pinned (OpenSpec.ofChange tripleruleSameSpec)

/-- ITS FALSE NEIGHBOUR: 'it returns false'. Refute it at one input. -/
def tripleruleSameWrong : ChangeSpec := { name := "tripleruleSame", fn := fun _ => fun
  | [d] => { results := [.lit (.bool false)], args := [d] }
  | _ => none }
def TripleruleSameWrongFalsely : Prop := tripleruleSameRow.holds Tryz.pinned (OpenSpec.ofChange tripleruleSameWrong)

/- THE SECOND FORM. 'bulk': how many values and letters a reading holds, each counted each time it is reached (what is shared counts as often as it is met; a slice's spare places count too). A statement '..UptoSaid' is the law's where the arguments, and the package variables that the reading takes, are together of bulk at most 1048576: NARROWER than '..Said'. Prove '..Said' where nothing that the law and all that it calls make is longer than what came in: it says more and counts as full. Else prove '..UptoSaid'. A law counts once. -/
mutual
def uptoBulk {H : Type} : DataW H → Nat
  | .lit (.string bytes) => bytes.length + 1
  | .lit _ => 1
  | .nil => 1
  | .ptr d => uptoBulk d + 1
  | .slice elems spare => uptoBulkAll elems + uptoBulkAll spare + 1
  | .agg parts => uptoBulkAll parts + 1
  | .iface _ d => uptoBulk d + 1
  | .map entries => uptoBulkEntries entries + 1
  | .held _ => 1
def uptoBulkAll {H : Type} : List (DataW H) → Nat
  | [] => 0
  | d :: r => uptoBulk d + uptoBulkAll r
def uptoBulkEntries {H : Type} : List (Lit × DataW H) → Nat
  | [] => 0
  | x :: r => uptoBulkEntry x + uptoBulkEntries r
def uptoBulkEntry {H : Type} : Lit × DataW H → Nat
  | (.string bytes, d) => bytes.length + uptoBulk d + 1
  | (_, d) => uptoBulk d + 1
 end
def uptoSmall : (H : Type) → List (DataW H) → Bool := fun _ ds => decide (uptoBulkAll ds ≤ 1048576)
def OpenSpec.upto (s : _root_.Go.ChangeSpec) : _root_.Go.OpenSpec := { _root_.Go.OpenSpec.ofChange s with cond := some uptoSmall }

/-- 'scarfjointlaw53.TripleruleSides', WHERE WHAT IT READS IS OF BULK AT MOST 1048576: true; the input reads as it did. -/
def tripleruleSidesUptoRow : OpenClaim := { program := "ytbedpmpjdnooiaagreat", sum := "bea894c9ce8ea175c6b5b0d86283ad514809043d3176ffb39368bd31a1980731", func := "scarfjoint/scarfjointlaw53.TripleruleSides", spec := "tripleruleSides", inPlace := ["internal/bytealg.IndexByteString"], unfollowed := true, recurses := true, loops := true, apart := false, narrowed := true }
def TripleruleSidesUptoSaid : Prop := tripleruleSidesUptoRow.holds Tryz.pinned (OpenSpec.upto tripleruleSidesSpec)

/-- 'scarfjointlaw53.TripleruleForward', WHERE WHAT IT READS IS OF BULK AT MOST 1048576: true; the input reads as it did. -/
def tripleruleForwardUptoRow : OpenClaim := { program := "ytbedpmpjdnooiaagreat", sum := "bea894c9ce8ea175c6b5b0d86283ad514809043d3176ffb39368bd31a1980731", func := "scarfjoint/scarfjointlaw53.TripleruleForward", spec := "tripleruleForward", inPlace := ["internal/bytealg.IndexByteString"], unfollowed := true, recurses := true, loops := true, apart := false, narrowed := true }
def TripleruleForwardUptoSaid : Prop := tripleruleForwardUptoRow.holds Tryz.pinned (OpenSpec.upto tripleruleForwardSpec)

/-- 'scarfjointlaw53.TripleruleConsistency', WHERE WHAT IT READS IS OF BULK AT MOST 1048576: true; the input reads as it did. -/
def tripleruleConsistencyUptoRow : OpenClaim := { program := "ytbedpmpjdnooiaagreat", sum := "bea894c9ce8ea175c6b5b0d86283ad514809043d3176ffb39368bd31a1980731", func := "scarfjoint/scarfjointlaw53.TripleruleConsistency", spec := "tripleruleConsistency", inPlace := ["internal/bytealg.IndexByteString"], unfollowed := true, recurses := true, loops := true, apart := false, narrowed := true }
def TripleruleConsistencyUptoSaid : Prop := tripleruleConsistencyUptoRow.holds Tryz.pinned (OpenSpec.upto tripleruleConsistencySpec)

/-- 'scarfjointlaw53.TripleruleMarks', WHERE WHAT IT READS IS OF BULK AT MOST 1048576: true; the input reads as it did. -/
def tripleruleMarksUptoRow : OpenClaim := { program := "ytbedpmpjdnooiaagreat", sum := "bea894c9ce8ea175c6b5b0d86283ad514809043d3176ffb39368bd31a1980731", func := "scarfjoint/scarfjointlaw53.TripleruleMarks", spec := "tripleruleMarks", inPlace := ["internal/bytealg.IndexByteString"], unfollowed := true, recurses := true, apart := false, narrowed := true }
def TripleruleMarksUptoSaid : Prop := tripleruleMarksUptoRow.holds Tryz.pinned (OpenSpec.upto tripleruleMarksSpec)

/-- 'scarfjointlaw53.TripleruleSwapped', WHERE WHAT IT READS IS OF BULK AT MOST 1048576: true; the input reads as it did. -/
def tripleruleSwappedUptoRow : OpenClaim := { program := "ytbedpmpjdnooiaagreat", sum := "bea894c9ce8ea175c6b5b0d86283ad514809043d3176ffb39368bd31a1980731", func := "scarfjoint/scarfjointlaw53.TripleruleSwapped", spec := "tripleruleSwapped", inPlace := ["internal/bytealg.IndexByteString"], unfollowed := true, recurses := true, apart := false, narrowed := true }
def TripleruleSwappedUptoSaid : Prop := tripleruleSwappedUptoRow.holds Tryz.pinned (OpenSpec.upto tripleruleSwappedSpec)

/-- 'scarfjointlaw53.TripleruleSame', WHERE WHAT IT READS IS OF BULK AT MOST 1048576: true; the input reads as it did. -/
def tripleruleSameUptoRow : OpenClaim := { program := "ytbedpmpjdnooiaagreat", sum := "bea894c9ce8ea175c6b5b0d86283ad514809043d3176ffb39368bd31a1980731", func := "scarfjoint/scarfjointlaw53.TripleruleSame", spec := "tripleruleSame", inPlace := ["internal/bytealg.IndexByteString"], unfollowed := true, recurses := true, apart := false, narrowed := true }
def TripleruleSameUptoSaid : Prop := tripleruleSameUptoRow.holds Tryz.pinned (OpenSpec.upto tripleruleSameSpec)

end Rows
end Go.Proofs.YtbedpmpjdnooiaaGreat
