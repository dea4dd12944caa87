/-
  NARROWER THAN 'FOR EVERY INPUT', by the rows' own cells (each row's printed sentence says how): JoinStrict: loops · JoinFind: loops.
  DERIVED. THE GIVEN ROWS OF THIS SEAT. 5 by the template 'for every input the law returns true; each argument reads behind the call as it read before'; 0 by the template 'total and deterministic' (their statements: YthcncnllajfkfaaGreatTotals.lean).
  GIVEN WITH THE SEED: the statements are not yours to turn. If you find one false, say at which input.
  Laid BY PROGRAM, IN A SANDBOX (cutbox-rows.mjs): the forced cells as the released guide's own fill.sh prints them over the translation 32475fb481cc28bd… (all of the seat's roots in one cut). By AI agents, Wed Nov 11 2026. No macro, syntax, notation, axiom, sorry.
-/
import Derived.Test.YthcncnllajfkfaaGreatChecked
import GoSem.Claim
import GoSem.ClaimJoined
import GoSem.ClaimMapViews
import Derived.JoinedTies
import Derived.KernelRfl
namespace Go.Proofs.YthcncnllajfkfaaGreat
/- THE CELL 'sum', in the pinned program and in every row, IS THE sha256 OF THE DUMP (.gsa) THAT YthcncnllajfkfaaGreatProg.lean LOADS. Nothing in Lean hashes anything: it is a label: what it is worth is what the hold of that sum in a sandbox is worth. -/
noncomputable def Tryz.pinned : Pinned := { name := "ythcncnllajfkfaagreat", sum := "32475fb481cc28bd7fa88cc83b5af9a0cc4f1e3e3aa4c3aba8f3a8870ef28cef", checked := Tryz.checked }
namespace Rows
def none {H : Type} : Left H := { results := [], args := [] }

/-- 'scarfjointlaw37.JoinStrict': WHATEVER THE INPUT: true; the input reads as it did. -/
def joinStrictSpec : ChangeSpec := { name := "joinStrict", fn := fun _ => fun
  | [d1, d2, d3] => { results := [.lit (.bool true)], args := [d1, d2, d3] }
  | _ => none }
def joinStrictRow : OpenClaim := { program := "ythcncnllajfkfaagreat", sum := "32475fb481cc28bd7fa88cc83b5af9a0cc4f1e3e3aa4c3aba8f3a8870ef28cef", func := "scarfjoint/scarfjointlaw37.JoinStrict", spec := "joinStrict", inPlace := ["internal/bytealg.IndexByteString", "math/bits.Add64"], unfollowed := true, recurses := true, loops := true, plainKeys := false, apart := false }
def JoinStrictSaid : Prop := joinStrictRow.holds Tryz.pinned (OpenSpec.ofChange joinStrictSpec)

/-- ITS FALSE NEIGHBOUR: 'it returns false'. Refute it at one input. -/
def joinStrictWrong : ChangeSpec := { name := "joinStrict", fn := fun _ => fun
  | [d1, d2, d3] => { results := [.lit (.bool false)], args := [d1, d2, d3] }
  | _ => none }
def JoinStrictWrongFalsely : Prop := joinStrictRow.holds Tryz.pinned (OpenSpec.ofChange joinStrictWrong)

/-- 'scarfjointlaw37.JoinFind': WHATEVER THE INPUT: true; the input reads as it did. -/
def joinFindSpec : ChangeSpec := { name := "joinFind", fn := fun _ => fun
  | [d1, d2, d3] => { results := [.lit (.bool true)], args := [d1, d2, d3] }
  | _ => none }
def joinFindRow : OpenClaim := { program := "ythcncnllajfkfaagreat", sum := "32475fb481cc28bd7fa88cc83b5af9a0cc4f1e3e3aa4c3aba8f3a8870ef28cef", func := "scarfjoint/scarfjointlaw37.JoinFind", spec := "joinFind", inPlace := ["internal/bytealg.IndexByteString", "math/bits.Add64"], unfollowed := true, recurses := true, loops := true, plainKeys := false, apart := false }
def JoinFindSaid : Prop := joinFindRow.holds Tryz.pinned (OpenSpec.ofChange joinFindSpec)

/-- ITS FALSE NEIGHBOUR: 'it returns false'. Refute it at one input. -/
def joinFindWrong : ChangeSpec := { name := "joinFind", fn := fun _ => fun
  | [d1, d2, d3] => { results := [.lit (.bool false)], args := [d1, d2, d3] }
  | _ => none }
def JoinFindWrongFalsely : Prop := joinFindRow.holds Tryz.pinned (OpenSpec.ofChange joinFindWrong)

/-- 'scarfjointlaw37.JoinOrder': WHATEVER THE INPUT: true; the input reads as it did. -/
def joinOrderSpec : ChangeSpec := { name := "joinOrder", fn := fun _ => fun
  | [d1, d2] => { results := [.lit (.bool true)], args := [d1, d2] }
  | _ => none }
def joinOrderRow : OpenClaim := { program := "ythcncnllajfkfaagreat", sum := "32475fb481cc28bd7fa88cc83b5af9a0cc4f1e3e3aa4c3aba8f3a8870ef28cef", func := "scarfjoint/scarfjointlaw37.JoinOrder", spec := "joinOrder", inPlace := ["internal/bytealg.IndexByteString", "math/bits.Add64"], unfollowed := true, recurses := true, plainKeys := false, apart := false }
def JoinOrderSaid : Prop := joinOrderRow.holds Tryz.pinned (OpenSpec.ofChange joinOrderSpec)

/-- ITS FALSE NEIGHBOUR: 'it returns false'. Refute it at one input. -/
def joinOrderWrong : ChangeSpec := { name := "joinOrder", fn := fun _ => fun
  | [d1, d2] => { results := [.lit (.bool false)], args := [d1, d2] }
  | _ => none }
def JoinOrderWrongFalsely : Prop := joinOrderRow.holds Tryz.pinned (OpenSpec.ofChange joinOrderWrong)

/-- 'scarfjointlaw37.JoinMoved': WHATEVER THE INPUT: true; the input reads as it did. -/
def joinMovedSpec : ChangeSpec := { name := "joinMoved", fn := fun _ => fun
  | [d] => { results := [.lit (.bool true)], args := [d] }
  | _ => none }
def joinMovedRow : OpenClaim := { program := "ythcncnllajfkfaagreat", sum := "32475fb481cc28bd7fa88cc83b5af9a0cc4f1e3e3aa4c3aba8f3a8870ef28cef", func := "scarfjoint/scarfjointlaw37.JoinMoved", spec := "joinMoved", inPlace := ["internal/bytealg.IndexByteString", "math/bits.Add64"], unfollowed := true, recurses := true, plainKeys := false, apart := false }
def JoinMovedSaid : Prop := joinMovedRow.holds Tryz.pinned (OpenSpec.ofChange joinMovedSpec)

/-- ITS FALSE NEIGHBOUR: 'it returns false'. Refute it at one input. -/
def joinMovedWrong : ChangeSpec := { name := "joinMoved", fn := fun _ => fun
  | [d] => { results := [.lit (.bool false)], args := [d] }
  | _ => none }
def JoinMovedWrongFalsely : Prop := joinMovedRow.holds Tryz.pinned (OpenSpec.ofChange joinMovedWrong)

/-- 'scarfjointlaw37.JoinDepth': WHATEVER THE INPUT: true; the input reads as it did. -/
def joinDepthSpec : ChangeSpec := { name := "joinDepth", fn := fun _ => fun
  | [d] => { results := [.lit (.bool true)], args := [d] }
  | _ => none }
def joinDepthRow : OpenClaim := { program := "ythcncnllajfkfaagreat", sum := "32475fb481cc28bd7fa88cc83b5af9a0cc4f1e3e3aa4c3aba8f3a8870ef28cef", func := "scarfjoint/scarfjointlaw37.JoinDepth", spec := "joinDepth", inPlace := ["internal/bytealg.IndexByteString", "math/bits.Add64"], unfollowed := true, recurses := true, plainKeys := false, apart := false }
def JoinDepthSaid : Prop := joinDepthRow.holds Tryz.pinned (OpenSpec.ofChange joinDepthSpec)

/-- ITS FALSE NEIGHBOUR: 'it returns false'. Refute it at one input. -/
def joinDepthWrong : ChangeSpec := { name := "joinDepth", fn := fun _ => fun
  | [d] => { results := [.lit (.bool false)], args := [d] }
  | _ => none }
def JoinDepthWrongFalsely : Prop := joinDepthRow.holds Tryz.pinned (OpenSpec.ofChange joinDepthWrong)

/- THE SECOND FORM. 'bulk': how many values and letters a reading holds, each counted each time it is reached (what is shared counts as often as it is met; a slice's spare places count too). A statement '..UptoSaid' is the law's where the arguments, and the package variables that the reading takes, are together of bulk at most 1048576: NARROWER than '..Said'. Prove '..Said' where nothing that the law and all that it calls make is longer than what came in: it says more and counts as full. Else prove '..UptoSaid'. A law counts once. -/
mutual
def uptoBulk {H : Type} : DataW H → Nat
  | .lit (.string bytes) => bytes.length + 1
  | .lit _ => 1
  | .nil => 1
  | .ptr d => uptoBulk d + 1
  | .slice elems spare => uptoBulkAll elems + uptoBulkAll spare + 1
  | .agg parts => uptoBulkAll parts + 1
  | .iface _ d => uptoBulk d + 1
  | .map entries => uptoBulkEntries entries + 1
  | .held _ => 1
def uptoBulkAll {H : Type} : List (DataW H) → Nat
  | [] => 0
  | d :: r => uptoBulk d + uptoBulkAll r
def uptoBulkEntries {H : Type} : List (Lit × DataW H) → Nat
  | [] => 0
  | x :: r => uptoBulkEntry x + uptoBulkEntries r
def uptoBulkEntry {H : Type} : Lit × DataW H → Nat
  | (.string bytes, d) => bytes.length + uptoBulk d + 1
  | (_, d) => uptoBulk d + 1
 end
def uptoSmall : (H : Type) → List (DataW H) → Bool := fun _ ds => decide (uptoBulkAll ds ≤ 1048576)
def OpenSpec.upto (s : _root_.Go.ChangeSpec) : _root_.Go.OpenSpec := { _root_.Go.OpenSpec.ofChange s with cond := some uptoSmall }

/-- 'scarfjointlaw37.JoinStrict', WHERE WHAT IT READS IS OF BULK AT MOST 1048576: true; the input reads as it did. -/
def joinStrictUptoRow : OpenClaim := { program := "ythcncnllajfkfaagreat", sum := "32475fb481cc28bd7fa88cc83b5af9a0cc4f1e3e3aa4c3aba8f3a8870ef28cef", func := "scarfjoint/scarfjointlaw37.JoinStrict", spec := "joinStrict", inPlace := ["internal/bytealg.IndexByteString", "math/bits.Add64"], unfollowed := true, recurses := true, loops := true, plainKeys := false, apart := false, narrowed := true }
def JoinStrictUptoSaid : Prop := joinStrictUptoRow.holds Tryz.pinned (OpenSpec.upto joinStrictSpec)

/-- 'scarfjointlaw37.JoinFind', WHERE WHAT IT READS IS OF BULK AT MOST 1048576: true; the input reads as it did. -/
def joinFindUptoRow : OpenClaim := { program := "ythcncnllajfkfaagreat", sum := "32475fb481cc28bd7fa88cc83b5af9a0cc4f1e3e3aa4c3aba8f3a8870ef28cef", func := "scarfjoint/scarfjointlaw37.JoinFind", spec := "joinFind", inPlace := ["internal/bytealg.IndexByteString", "math/bits.Add64"], unfollowed := true, recurses := true, loops := true, plainKeys := false, apart := false, narrowed := true }
def JoinFindUptoSaid : Prop := joinFindUptoRow.holds Tryz.pinned (OpenSpec.upto joinFindSpec)

/-- 'scarfjointlaw37.JoinOrder', WHERE WHAT IT READS IS OF BULK AT MOST 1048576: true; the input reads as it did. -/
def joinOrderUptoRow : OpenClaim := { program := "ythcncnllajfkfaagreat", sum := "32475fb481cc28bd7fa88cc83b5af9a0cc4f1e3e3aa4c3aba8f3a8870ef28cef", func := "scarfjoint/scarfjointlaw37.JoinOrder", spec := "joinOrder", inPlace := ["internal/bytealg.IndexByteString", "math/bits.Add64"], unfollowed := true, recurses := true, plainKeys := false, apart := false, narrowed := true }
def JoinOrderUptoSaid : Prop := joinOrderUptoRow.holds Tryz.pinned (OpenSpec.upto joinOrderSpec)

/-- 'scarfjointlaw37.JoinMoved', WHERE WHAT IT READS IS OF BULK AT MOST 1048576: true; the input reads as it did. -/
def joinMovedUptoRow : OpenClaim := { program := "ythcncnllajfkfaagreat", sum := "32475fb481cc28bd7fa88cc83b5af9a0cc4f1e3e3aa4c3aba8f3a8870ef28cef", func := "scarfjoint/scarfjointlaw37.JoinMoved", spec := "joinMoved", inPlace := ["internal/bytealg.IndexByteString", "math/bits.Add64"], unfollowed := true, recurses := true, plainKeys := false, apart := false, narrowed := true }
def JoinMovedUptoSaid : Prop := joinMovedUptoRow.holds Tryz.pinned (OpenSpec.upto joinMovedSpec)

/-- 'scarfjointlaw37.JoinDepth', WHERE WHAT IT READS IS OF BULK AT MOST 1048576: true; the input reads as it did. -/
def joinDepthUptoRow : OpenClaim := { program := "ythcncnllajfkfaagreat", sum := "32475fb481cc28bd7fa88cc83b5af9a0cc4f1e3e3aa4c3aba8f3a8870ef28cef", func := "scarfjoint/scarfjointlaw37.JoinDepth", spec := "joinDepth", inPlace := ["internal/bytealg.IndexByteString", "math/bits.Add64"], unfollowed := true, recurses := true, plainKeys := false, apart := false, narrowed := true }
def JoinDepthUptoSaid : Prop := joinDepthUptoRow.holds Tryz.pinned (OpenSpec.upto joinDepthSpec)

end Rows
end Go.Proofs.YthcncnllajfkfaaGreat
