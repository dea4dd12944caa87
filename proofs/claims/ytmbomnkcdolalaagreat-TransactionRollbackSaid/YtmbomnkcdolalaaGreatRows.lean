/-
  NARROWER THAN 'FOR EVERY INPUT', by the rows' own cells (each row's printed sentence says how): TransactionValid: loops · TransactionRollback: loops · TransactionRun: loops · TransactionDo: loops.
  DERIVED. THE GIVEN ROWS OF THIS SEAT. 6 by the template 'for every input the law returns true; each argument reads behind the call as it read before'; 0 by the template 'total and deterministic' (their statements: YtmbomnkcdolalaaGreatTotals.lean).
  GIVEN WITH THE SEED: the statements are not yours to turn. If you find one false, say at which input.
  Laid BY PROGRAM, IN A SANDBOX (cutbox-rows.mjs): the forced cells as the released guide's own fill.sh prints them over the translation 7e7d1fe015225d79… (all of the seat's roots in one cut). By AI agents, Wed Nov 11 2026. No macro, syntax, notation, axiom, sorry.
-/
import Derived.Test.YtmbomnkcdolalaaGreatChecked
import GoSem.Claim
import GoSem.ClaimJoined
import GoSem.ClaimMapViews
import Derived.JoinedTies
import Derived.KernelRfl
namespace Go.Proofs.YtmbomnkcdolalaaGreat
/- THE CELL 'sum', in the pinned program and in every row, IS THE sha256 OF THE DUMP (.gsa) THAT YtmbomnkcdolalaaGreatProg.lean LOADS. Nothing in Lean hashes anything: it is a label: what it is worth is what the hold of that sum in a sandbox is worth. -/
noncomputable def Tryz.pinned : Pinned := { name := "ytmbomnkcdolalaagreat", sum := "7e7d1fe015225d791d80a25f06df338a6bc84402bccddabad4cabe74bcc89e9e", checked := Tryz.checked }
namespace Rows
def none {H : Type} : Left H := { results := [], args := [] }

/-- 'scarfjointlaw48.TransactionValid': WHATEVER THE INPUT: true; the input reads as it did. -/
def transactionValidSpec : ChangeSpec := { name := "transactionValid", fn := fun _ => fun
  | [d] => { results := [.lit (.bool true)], args := [d] }
  | _ => none }
def transactionValidRow : OpenClaim := { program := "ytmbomnkcdolalaagreat", sum := "7e7d1fe015225d791d80a25f06df338a6bc84402bccddabad4cabe74bcc89e9e", func := "scarfjoint/scarfjointlaw48.TransactionValid", spec := "transactionValid", inPlace := ["internal/bytealg.IndexByteString", "math/bits.Add64"], unfollowed := true, recurses := true, loops := true, plainKeys := false, apart := false }
def TransactionValidSaid : Prop := transactionValidRow.holds Tryz.pinned (OpenSpec.ofChange transactionValidSpec)

/-- ITS FALSE NEIGHBOUR: 'it returns false'. Refute it at one input. -/
def transactionValidWrong : ChangeSpec := { name := "transactionValid", fn := fun _ => fun
  | [d] => { results := [.lit (.bool false)], args := [d] }
  | _ => none }
def TransactionValidWrongFalsely : Prop := transactionValidRow.holds Tryz.pinned (OpenSpec.ofChange transactionValidWrong)

/-- 'scarfjointlaw48.TransactionRollback': WHATEVER THE INPUT: true; the input reads as it did. -/
def transactionRollbackSpec : ChangeSpec := { name := "transactionRollback", fn := fun _ => fun
  | [d] => { results := [.lit (.bool true)], args := [d] }
  | _ => none }
def transactionRollbackRow : OpenClaim := { program := "ytmbomnkcdolalaagreat", sum := "7e7d1fe015225d791d80a25f06df338a6bc84402bccddabad4cabe74bcc89e9e", func := "scarfjoint/scarfjointlaw48.TransactionRollback", spec := "transactionRollback", inPlace := ["internal/bytealg.IndexByteString", "math/bits.Add64"], unfollowed := true, recurses := true, loops := true, plainKeys := false, apart := false }
def TransactionRollbackSaid : Prop := transactionRollbackRow.holds Tryz.pinned (OpenSpec.ofChange transactionRollbackSpec)

/-- ITS FALSE NEIGHBOUR: 'it returns false'. Refute it at one input. -/
def transactionRollbackWrong : ChangeSpec := { name := "transactionRollback", fn := fun _ => fun
  | [d] => { results := [.lit (.bool false)], args := [d] }
  | _ => none }
def TransactionRollbackWrongFalsely : Prop := transactionRollbackRow.holds Tryz.pinned (OpenSpec.ofChange transactionRollbackWrong)

/-- 'scarfjointlaw48.TransactionRun': WHATEVER THE INPUT: true; the input reads as it did. -/
def transactionRunSpec : ChangeSpec := { name := "transactionRun", fn := fun _ => fun
  | [d1, d2] => { results := [.lit (.bool true)], args := [d1, d2] }
  | _ => none }
def transactionRunRow : OpenClaim := { program := "ytmbomnkcdolalaagreat", sum := "7e7d1fe015225d791d80a25f06df338a6bc84402bccddabad4cabe74bcc89e9e", func := "scarfjoint/scarfjointlaw48.TransactionRun", spec := "transactionRun", inPlace := ["internal/bytealg.IndexByteString", "math/bits.Add64"], unfollowed := true, recurses := true, loops := true, plainKeys := false, apart := false }
def TransactionRunSaid : Prop := transactionRunRow.holds Tryz.pinned (OpenSpec.ofChange transactionRunSpec)

/-- ITS FALSE NEIGHBOUR: 'it returns false'. Refute it at one input. -/
def transactionRunWrong : ChangeSpec := { name := "transactionRun", fn := fun _ => fun
  | [d1, d2] => { results := [.lit (.bool false)], args := [d1, d2] }
  | _ => none }
def TransactionRunWrongFalsely : Prop := transactionRunRow.holds Tryz.pinned (OpenSpec.ofChange transactionRunWrong)

/-- 'scarfjointlaw48.TransactionBack': WHATEVER THE INPUT: true; the input reads as it did. -/
def transactionBackSpec : ChangeSpec := { name := "transactionBack", fn := fun _ => fun
  | [d1, d2, d3] => { results := [.lit (.bool true)], args := [d1, d2, d3] }
  | _ => none }
def transactionBackRow : OpenClaim := { program := "ytmbomnkcdolalaagreat", sum := "7e7d1fe015225d791d80a25f06df338a6bc84402bccddabad4cabe74bcc89e9e", func := "scarfjoint/scarfjointlaw48.TransactionBack", spec := "transactionBack", inPlace := ["internal/bytealg.IndexByteString", "math/bits.Add64"], unfollowed := true, recurses := true, plainKeys := false, apart := false }
def TransactionBackSaid : Prop := transactionBackRow.holds Tryz.pinned (OpenSpec.ofChange transactionBackSpec)

/-- ITS FALSE NEIGHBOUR: 'it returns false'. Refute it at one input. -/
def transactionBackWrong : ChangeSpec := { name := "transactionBack", fn := fun _ => fun
  | [d1, d2, d3] => { results := [.lit (.bool false)], args := [d1, d2, d3] }
  | _ => none }
def TransactionBackWrongFalsely : Prop := transactionBackRow.holds Tryz.pinned (OpenSpec.ofChange transactionBackWrong)

/-- 'scarfjointlaw48.TransactionStays': WHATEVER THE INPUT: true; the input reads as it did. -/
def transactionStaysSpec : ChangeSpec := { name := "transactionStays", fn := fun _ => fun
  | [d1, d2] => { results := [.lit (.bool true)], args := [d1, d2] }
  | _ => none }
def transactionStaysRow : OpenClaim := { program := "ytmbomnkcdolalaagreat", sum := "7e7d1fe015225d791d80a25f06df338a6bc84402bccddabad4cabe74bcc89e9e", func := "scarfjoint/scarfjointlaw48.TransactionStays", spec := "transactionStays", inPlace := ["internal/bytealg.IndexByteString", "math/bits.Add64"], unfollowed := true, recurses := true, plainKeys := false, apart := false }
def TransactionStaysSaid : Prop := transactionStaysRow.holds Tryz.pinned (OpenSpec.ofChange transactionStaysSpec)

/-- ITS FALSE NEIGHBOUR: 'it returns false'. Refute it at one input. -/
def transactionStaysWrong : ChangeSpec := { name := "transactionStays", fn := fun _ => fun
  | [d1, d2] => { results := [.lit (.bool false)], args := [d1, d2] }
  | _ => none }
def TransactionStaysWrongFalsely : Prop := transactionStaysRow.holds Tryz.pinned (OpenSpec.ofChange transactionStaysWrong)

/-- 'scarfjointlaw48.TransactionDo': WHATEVER THE INPUT: true; the input reads as it did. -/
def transactionDoSpec : ChangeSpec := { name := "transactionDo", fn := fun _ => fun
  | [d1, d2] => { results := [.lit (.bool true)], args := [d1, d2] }
  | _ => none }
def transactionDoRow : OpenClaim := { program := "ytmbomnkcdolalaagreat", sum := "7e7d1fe015225d791d80a25f06df338a6bc84402bccddabad4cabe74bcc89e9e", func := "scarfjoint/scarfjointlaw48.TransactionDo", spec := "transactionDo", inPlace := ["internal/bytealg.IndexByteString", "math/bits.Add64"], unfollowed := true, recurses := true, loops := true, plainKeys := false, apart := false }
def TransactionDoSaid : Prop := transactionDoRow.holds Tryz.pinned (OpenSpec.ofChange transactionDoSpec)

/-- ITS FALSE NEIGHBOUR: 'it returns false'. Refute it at one input. -/
def transactionDoWrong : ChangeSpec := { name := "transactionDo", fn := fun _ => fun
  | [d1, d2] => { results := [.lit (.bool false)], args := [d1, d2] }
  | _ => none }
def TransactionDoWrongFalsely : Prop := transactionDoRow.holds Tryz.pinned (OpenSpec.ofChange transactionDoWrong)

/- THE SECOND FORM. 'bulk': how many values and letters a reading holds, each counted each time it is reached (what is shared counts as often as it is met; a slice's spare places count too). A statement '..UptoSaid' is the law's where the arguments, and the package variables that the reading takes, are together of bulk at most 1048576: NARROWER than '..Said'. Prove '..Said' where nothing that the law and all that it calls make is longer than what came in: it says more and counts as full. Else prove '..UptoSaid'. A law counts once. -/
mutual
def uptoBulk {H : Type} : DataW H → Nat
  | .lit (.string bytes) => bytes.length + 1
  | .lit _ => 1
  | .nil => 1
  | .ptr d => uptoBulk d + 1
  | .slice elems spare => uptoBulkAll elems + uptoBulkAll spare + 1
  | .agg parts => uptoBulkAll parts + 1
  | .iface _ d => uptoBulk d + 1
  | .map entries => uptoBulkEntries entries + 1
  | .held _ => 1
def uptoBulkAll {H : Type} : List (DataW H) → Nat
  | [] => 0
  | d :: r => uptoBulk d + uptoBulkAll r
def uptoBulkEntries {H : Type} : List (Lit × DataW H) → Nat
  | [] => 0
  | x :: r => uptoBulkEntry x + uptoBulkEntries r
def uptoBulkEntry {H : Type} : Lit × DataW H → Nat
  | (.string bytes, d) => bytes.length + uptoBulk d + 1
  | (_, d) => uptoBulk d + 1
 end
def uptoSmall : (H : Type) → List (DataW H) → Bool := fun _ ds => decide (uptoBulkAll ds ≤ 1048576)
def OpenSpec.upto (s : _root_.Go.ChangeSpec) : _root_.Go.OpenSpec := { _root_.Go.OpenSpec.ofChange s with cond := some uptoSmall }

/-- 'scarfjointlaw48.TransactionValid', WHERE WHAT IT READS IS OF BULK AT MOST 1048576: true; the input reads as it did. -/
def transactionValidUptoRow : OpenClaim := { program := "ytmbomnkcdolalaagreat", sum := "7e7d1fe015225d791d80a25f06df338a6bc84402bccddabad4cabe74bcc89e9e", func := "scarfjoint/scarfjointlaw48.TransactionValid", spec := "transactionValid", inPlace := ["internal/bytealg.IndexByteString", "math/bits.Add64"], unfollowed := true, recurses := true, loops := true, plainKeys := false, apart := false, narrowed := true }
def TransactionValidUptoSaid : Prop := transactionValidUptoRow.holds Tryz.pinned (OpenSpec.upto transactionValidSpec)

/-- 'scarfjointlaw48.TransactionRollback', WHERE WHAT IT READS IS OF BULK AT MOST 1048576: true; the input reads as it did. -/
def transactionRollbackUptoRow : OpenClaim := { program := "ytmbomnkcdolalaagreat", sum := "7e7d1fe015225d791d80a25f06df338a6bc84402bccddabad4cabe74bcc89e9e", func := "scarfjoint/scarfjointlaw48.TransactionRollback", spec := "transactionRollback", inPlace := ["internal/bytealg.IndexByteString", "math/bits.Add64"], unfollowed := true, recurses := true, loops := true, plainKeys := false, apart := false, narrowed := true }
def TransactionRollbackUptoSaid : Prop := transactionRollbackUptoRow.holds Tryz.pinned (OpenSpec.upto transactionRollbackSpec)

/-- 'scarfjointlaw48.TransactionRun', WHERE WHAT IT READS IS OF BULK AT MOST 1048576: true; the input reads as it did. -/
def transactionRunUptoRow : OpenClaim := { program := "ytmbomnkcdolalaagreat", sum := "7e7d1fe015225d791d80a25f06df338a6bc84402bccddabad4cabe74bcc89e9e", func := "scarfjoint/scarfjointlaw48.TransactionRun", spec := "transactionRun", inPlace := ["internal/bytealg.IndexByteString", "math/bits.Add64"], unfollowed := true, recurses := true, loops := true, plainKeys := false, apart := false, narrowed := true }
def TransactionRunUptoSaid : Prop := transactionRunUptoRow.holds Tryz.pinned (OpenSpec.upto transactionRunSpec)

/-- 'scarfjointlaw48.TransactionBack', WHERE WHAT IT READS IS OF BULK AT MOST 1048576: true; the input reads as it did. -/
def transactionBackUptoRow : OpenClaim := { program := "ytmbomnkcdolalaagreat", sum := "7e7d1fe015225d791d80a25f06df338a6bc84402bccddabad4cabe74bcc89e9e", func := "scarfjoint/scarfjointlaw48.TransactionBack", spec := "transactionBack", inPlace := ["internal/bytealg.IndexByteString", "math/bits.Add64"], unfollowed := true, recurses := true, plainKeys := false, apart := false, narrowed := true }
def TransactionBackUptoSaid : Prop := transactionBackUptoRow.holds Tryz.pinned (OpenSpec.upto transactionBackSpec)

/-- 'scarfjointlaw48.TransactionStays', WHERE WHAT IT READS IS OF BULK AT MOST 1048576: true; the input reads as it did. -/
def transactionStaysUptoRow : OpenClaim := { program := "ytmbomnkcdolalaagreat", sum := "7e7d1fe015225d791d80a25f06df338a6bc84402bccddabad4cabe74bcc89e9e", func := "scarfjoint/scarfjointlaw48.TransactionStays", spec := "transactionStays", inPlace := ["internal/bytealg.IndexByteString", "math/bits.Add64"], unfollowed := true, recurses := true, plainKeys := false, apart := false, narrowed := true }
def TransactionStaysUptoSaid : Prop := transactionStaysUptoRow.holds Tryz.pinned (OpenSpec.upto transactionStaysSpec)

/-- 'scarfjointlaw48.TransactionDo', WHERE WHAT IT READS IS OF BULK AT MOST 1048576: true; the input reads as it did. -/
def transactionDoUptoRow : OpenClaim := { program := "ytmbomnkcdolalaagreat", sum := "7e7d1fe015225d791d80a25f06df338a6bc84402bccddabad4cabe74bcc89e9e", func := "scarfjoint/scarfjointlaw48.TransactionDo", spec := "transactionDo", inPlace := ["internal/bytealg.IndexByteString", "math/bits.Add64"], unfollowed := true, recurses := true, loops := true, plainKeys := false, apart := false, narrowed := true }
def TransactionDoUptoSaid : Prop := transactionDoUptoRow.holds Tryz.pinned (OpenSpec.upto transactionDoSpec)

end Rows
end Go.Proofs.YtmbomnkcdolalaaGreat
