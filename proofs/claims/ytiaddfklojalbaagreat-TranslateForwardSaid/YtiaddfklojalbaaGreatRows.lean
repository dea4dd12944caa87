/-
  NARROWER THAN 'FOR EVERY INPUT', by the rows' own cells (each row's printed sentence says how): TranslateBackward: loops · TranslateGenerates: loops · TranslateForward: loops.
  DERIVED. THE GIVEN ROWS OF THIS SEAT. 3 by the template 'for every input the law returns true; each argument reads behind the call as it read before'; 0 by the template 'total and deterministic' (their statements: YtiaddfklojalbaaGreatTotals.lean).
  GIVEN WITH THE SEED: the statements are not yours to turn. If you find one false, say at which input.
  Laid BY PROGRAM, IN A SANDBOX (cutbox-rows.mjs): the forced cells as the released guide's own fill.sh prints them over the translation bfbb2ca509b5c17c… (all of the seat's roots in one cut). By AI agents, Wed Nov 11 2026. No macro, syntax, notation, axiom, sorry.
-/
import Derived.Test.YtiaddfklojalbaaGreatChecked
import GoSem.Claim
import GoSem.ClaimJoined
import GoSem.ClaimMapViews
import Derived.JoinedTies
import Derived.KernelRfl
namespace Go.Proofs.YtiaddfklojalbaaGreat
/- THE CELL 'sum', in the pinned program and in every row, IS THE sha256 OF THE DUMP (.gsa) THAT YtiaddfklojalbaaGreatProg.lean LOADS. Nothing in Lean hashes anything: it is a label: what it is worth is what the hold of that sum in a sandbox is worth. -/
noncomputable def Tryz.pinned : Pinned := { name := "ytiaddfklojalbaagreat", sum := "bfbb2ca509b5c17c23df30426eeb24bbd7e3faacc569e2030486974c3a203fe6", checked := Tryz.checked }
namespace Rows
def none {H : Type} : Left H := { results := [], args := [] }

/-- 'scarfjointlaw54.TranslateBackward': WHATEVER THE INPUT: true; the input reads as it did. -/
def translateBackwardSpec : ChangeSpec := { name := "translateBackward", fn := fun _ => fun
  | [d1, d2] => { results := [.lit (.bool true)], args := [d1, d2] }
  | _ => none }
def translateBackwardRow : OpenClaim := { program := "ytiaddfklojalbaagreat", sum := "bfbb2ca509b5c17c23df30426eeb24bbd7e3faacc569e2030486974c3a203fe6", func := "scarfjoint/scarfjointlaw54.TranslateBackward", spec := "translateBackward", inPlace := ["internal/bytealg.IndexByteString", "math/bits.Add64"], unfollowed := true, recurses := true, loops := true, plainKeys := false, apart := false }
def TranslateBackwardSaid : Prop := translateBackwardRow.holds Tryz.pinned (OpenSpec.ofChange translateBackwardSpec)

/-- ITS FALSE NEIGHBOUR: 'it returns false'. Refute it at one input. -/
def translateBackwardWrong : ChangeSpec := { name := "translateBackward", fn := fun _ => fun
  | [d1, d2] => { results := [.lit (.bool false)], args := [d1, d2] }
  | _ => none }
def TranslateBackwardWrongFalsely : Prop := translateBackwardRow.holds Tryz.pinned (OpenSpec.ofChange translateBackwardWrong)

/-- 'scarfjointlaw54.TranslateGenerates': WHATEVER THE INPUT: true; the input reads as it did. -/
def translateGeneratesSpec : ChangeSpec := { name := "translateGenerates", fn := fun _ => fun
  | [d1, d2] => { results := [.lit (.bool true)], args := [d1, d2] }
  | _ => none }
def translateGeneratesRow : OpenClaim := { program := "ytiaddfklojalbaagreat", sum := "bfbb2ca509b5c17c23df30426eeb24bbd7e3faacc569e2030486974c3a203fe6", func := "scarfjoint/scarfjointlaw54.TranslateGenerates", spec := "translateGenerates", inPlace := ["internal/bytealg.IndexByteString", "math/bits.Add64"], unfollowed := true, recurses := true, loops := true, plainKeys := false, apart := false }
def TranslateGeneratesSaid : Prop := translateGeneratesRow.holds Tryz.pinned (OpenSpec.ofChange translateGeneratesSpec)

/-- ITS FALSE NEIGHBOUR: 'it returns false'. Refute it at one input. -/
def translateGeneratesWrong : ChangeSpec := { name := "translateGenerates", fn := fun _ => fun
  | [d1, d2] => { results := [.lit (.bool false)], args := [d1, d2] }
  | _ => none }
def TranslateGeneratesWrongFalsely : Prop := translateGeneratesRow.holds Tryz.pinned (OpenSpec.ofChange translateGeneratesWrong)

/-- 'scarfjointlaw54.TranslateForward': WHATEVER THE INPUT: true; the input reads as it did. -/
def translateForwardSpec : ChangeSpec := { name := "translateForward", fn := fun _ => fun
  | [d1, d2] => { results := [.lit (.bool true)], args := [d1, d2] }
  | _ => none }
def translateForwardRow : OpenClaim := { program := "ytiaddfklojalbaagreat", sum := "bfbb2ca509b5c17c23df30426eeb24bbd7e3faacc569e2030486974c3a203fe6", func := "scarfjoint/scarfjointlaw54.TranslateForward", spec := "translateForward", inPlace := ["internal/bytealg.IndexByteString", "math/bits.Add64"], unfollowed := true, recurses := true, loops := true, plainKeys := false, apart := false }
def TranslateForwardSaid : Prop := translateForwardRow.holds Tryz.pinned (OpenSpec.ofChange translateForwardSpec)

/-- ITS FALSE NEIGHBOUR: 'it returns false'. Refute it at one input. -/
def translateForwardWrong : ChangeSpec := { name := "translateForward", fn := fun _ => fun
  | [d1, d2] => { results := [.lit (.bool false)], args := [d1, d2] }
  | _ => none }
def TranslateForwardWrongFalsely : Prop := translateForwardRow.holds Tryz.pinned (OpenSpec.ofChange translateForwardWrong)

/- THE SECOND FORM. 'bulk': how many values and letters a reading holds, each counted each time it is reached (what is shared counts as often as it is met; a slice's spare places count too). A statement '..UptoSaid' is the law's where the arguments, and the package variables that the reading takes, are together of bulk at most 1048576: NARROWER than '..Said'. Prove '..Said' where nothing that the law and all that it calls make is longer than what came in: it says more and counts as full. Else prove '..UptoSaid'. A law counts once. -/
mutual
def uptoBulk {H : Type} : DataW H → Nat
  | .lit (.string bytes) => bytes.length + 1
  | .lit _ => 1
  | .nil => 1
  | .ptr d => uptoBulk d + 1
  | .slice elems spare => uptoBulkAll elems + uptoBulkAll spare + 1
  | .agg parts => uptoBulkAll parts + 1
  | .iface _ d => uptoBulk d + 1
  | .map entries => uptoBulkEntries entries + 1
  | .held _ => 1
def uptoBulkAll {H : Type} : List (DataW H) → Nat
  | [] => 0
  | d :: r => uptoBulk d + uptoBulkAll r
def uptoBulkEntries {H : Type} : List (Lit × DataW H) → Nat
  | [] => 0
  | x :: r => uptoBulkEntry x + uptoBulkEntries r
def uptoBulkEntry {H : Type} : Lit × DataW H → Nat
  | (.string bytes, d) => bytes.length + uptoBulk d + 1
  | (_, d) => uptoBulk d + 1
 end
def uptoSmall : (H : Type) → List (DataW H) → Bool := fun _ ds => decide (uptoBulkAll ds ≤ 1048576)
def OpenSpec.upto (s : _root_.Go.ChangeSpec) : _root_.Go.OpenSpec := { _root_.Go.OpenSpec.ofChange s with cond := some uptoSmall }

/-- 'scarfjointlaw54.TranslateBackward', WHERE WHAT IT READS IS OF BULK AT MOST 1048576: true; the input reads as it did. -/
def translateBackwardUptoRow : OpenClaim := { program := "ytiaddfklojalbaagreat", sum := "bfbb2ca509b5c17c23df30426eeb24bbd7e3faacc569e2030486974c3a203fe6", func := "scarfjoint/scarfjointlaw54.TranslateBackward", spec := "translateBackward", inPlace := ["internal/bytealg.IndexByteString", "math/bits.Add64"], unfollowed := true, recurses := true, loops := true, plainKeys := false, apart := false, narrowed := true }
def TranslateBackwardUptoSaid : Prop := translateBackwardUptoRow.holds Tryz.pinned (OpenSpec.upto translateBackwardSpec)

/-- 'scarfjointlaw54.TranslateGenerates', WHERE WHAT IT READS IS OF BULK AT MOST 1048576: true; the input reads as it did. -/
def translateGeneratesUptoRow : OpenClaim := { program := "ytiaddfklojalbaagreat", sum := "bfbb2ca509b5c17c23df30426eeb24bbd7e3faacc569e2030486974c3a203fe6", func := "scarfjoint/scarfjointlaw54.TranslateGenerates", spec := "translateGenerates", inPlace := ["internal/bytealg.IndexByteString", "math/bits.Add64"], unfollowed := true, recurses := true, loops := true, plainKeys := false, apart := false, narrowed := true }
def TranslateGeneratesUptoSaid : Prop := translateGeneratesUptoRow.holds Tryz.pinned (OpenSpec.upto translateGeneratesSpec)

/-- 'scarfjointlaw54.TranslateForward', WHERE WHAT IT READS IS OF BULK AT MOST 1048576: true; the input reads as it did. -/
def translateForwardUptoRow : OpenClaim := { program := "ytiaddfklojalbaagreat", sum := "bfbb2ca509b5c17c23df30426eeb24bbd7e3faacc569e2030486974c3a203fe6", func := "scarfjoint/scarfjointlaw54.TranslateForward", spec := "translateForward", inPlace := ["internal/bytealg.IndexByteString", "math/bits.Add64"], unfollowed := true, recurses := true, loops := true, plainKeys := false, apart := false, narrowed := true }
def TranslateForwardUptoSaid : Prop := translateForwardUptoRow.holds Tryz.pinned (OpenSpec.upto translateForwardSpec)

end Rows
end Go.Proofs.YtiaddfklojalbaaGreat
