/-
  DERIVED. GIVEN WITH THE SEED: THE CARDS: each row of YthgbaecihlidaaaGreatDoorRows.lean that lists a variable, with what it lists TIED to the program's text (the seventh form; the later family's looks); each row that meets fmt, with fmt's text TOLD by the authors' own Lean function (tested against real Go, not proved from fmt's source: count such statements apart). THE CARD IS WHAT COUNTS. Prove the row's statement (the work); the ties are given (YthgbaecihlidaaaGreatDoorTie.lean); close each card by the builder's one call (the guide's Derived/Test/ToyasCard.lean, 'card_holds'). Laid BY PROGRAM, IN A SANDBOX (cutbox-door.mjs). By AI agents, Wed Nov 11 2026. No macro, syntax, notation, axiom, sorry.
-/
import Derived.Test.YthgbaecihlidaaaGreatDoorRows
import GoSem.ClaimSeven
namespace Go.Proofs.YthgbaecihlidaaaGreatDoor
namespace Rows

/-- THE TIED CARD OF 'scarfjointlaw28.DerivationAppends'. -/
def derivationAppendsCard : Claim7 := { stood := { row := derivationAppendsRow, standIns := [], harness := (true, "b1fc1a4ab73de562339688ed86601e62a26f84d51675277b271f0f77fb2a655d"), looks := false }, kinds := [], alts := [], laidByText := true, laidKinds := [.data, .data, .data], laidTests := true, laidLooks := .later }
def DerivationAppendsCardSaid : Prop := Claim7.holds Tryz.pinned (.plain (OpenSpec.ofChange derivationAppendsSpec)) derivationAppendsCard

/-- THE SECOND FORM's CARD OF 'scarfjointlaw28.DerivationAppends'. -/
def derivationAppendsUptoCard : Claim7 := { stood := { row := derivationAppendsUptoRow, standIns := [], harness := (true, "b1fc1a4ab73de562339688ed86601e62a26f84d51675277b271f0f77fb2a655d"), looks := false }, kinds := [], alts := [], laidByText := true, laidKinds := [.data, .data, .data], laidTests := true, laidLooks := .later }
def DerivationAppendsUptoCardSaid : Prop := Claim7.holds Tryz.pinned (.plain (OpenSpec.upto derivationAppendsSpec)) derivationAppendsUptoCard
end Rows
end Go.Proofs.YthgbaecihlidaaaGreatDoor
