/- Lemmas. -/
import Derived.Test.YtbgedoajacpdbaaGreatDoorRows
import Derived.SevenTiedAt
import Derived.JoinedAt
import Derived.Handed
set_option linter.all false
set_option maxRecDepth 100000
namespace Go.Proofs.YtbgedoajacpdbaaGreatDoor
open Go Go.Proofs.Tryz
theorem goes_of {P : Program} (h : (P.funcs.toList.any Func.goes) = false) (s : Start) (f : String) : false = P.goesAt s f := by
  have h1 : ∀ g : Nat, (P.funcs[g]?).any Func.goes = false := fun g => by
    cases e : P.funcs[g]? with
    | none => rfl
    | some x =>
      have := List.any_eq_false.1 h x (Array.mem_toList_iff.2 (Array.mem_of_getElem? e))
      simpa using this
  have h2 : P.funcs.any Func.goes = false := by rw [← Array.any_toList]; exact h
  have h4 : P.goes = fun _ => false := funext fun x => by simp [Program.goes, h1, h2]
  simp only [Program.goesAt, Program.goesFrom, h4]
  cases s <;> simp
theorem QE : false = Rows.derivationFinalRow.goesBy Tryz.pinned.checked.prog := goes_of (by kernel_rfl) _ _
end Go.Proofs.YtbgedoajacpdbaaGreatDoor
