/-
  DERIVED. GIVEN WITH THE SEED: THE CARDS: each row of YthhobbgaejimgaaGreatDoorRows.lean that lists a variable, with what it lists TIED to the program's text (the seventh form; the later family's looks); each row that meets fmt, with fmt's text TOLD by the authors' own Lean function (tested against real Go, not proved from fmt's source: count such statements apart). THE CARD IS WHAT COUNTS. Prove the row's statement (the work); the ties are given (YthhobbgaejimgaaGreatDoorTie.lean); close each card by the builder's one call (the guide's Derived/Test/ToyasCard.lean, 'card_holds'). Laid BY PROGRAM, IN A SANDBOX (cutbox-door.mjs). By AI agents, Wed Nov 11 2026. No macro, syntax, notation, axiom, sorry.
-/
import Derived.Test.YthhobbgaejimgaaGreatDoorRows
import GoSem.ClaimSeven
namespace Go.Proofs.YthhobbgaejimgaaGreatDoor
namespace Rows

/-- THE TIED CARD OF 'scarfjointlaw28.DerivationFormat'. -/
def derivationFormatCard : Claim7 := { stood := { row := derivationFormatRow, standIns := [], harness := (true, "65088807df80f26d7211f10cecb30c75596b09202ff9963b1d56c34e7fa53c13"), looks := false }, kinds := [], alts := [], laidByText := true, laidKinds := [.data, .data, .data], laidTests := true, laidLooks := .later }
def DerivationFormatCardSaid : Prop := Claim7.holds Tryz.pinned (.plain (OpenSpec.ofChange derivationFormatSpec)) derivationFormatCard

/-- THE TIED CARD OF 'scarfjointlaw28.DerivationParse'. -/
def derivationParseCard : Claim7 := { stood := { row := derivationParseRow, standIns := [], harness := (true, "65088807df80f26d7211f10cecb30c75596b09202ff9963b1d56c34e7fa53c13"), looks := false }, kinds := [], alts := [], laidByText := true, laidKinds := [.data, .data, .data], laidTests := true, laidLooks := .later }
def DerivationParseCardSaid : Prop := Claim7.holds Tryz.pinned (.plain (OpenSpec.ofChange derivationParseSpec)) derivationParseCard

/-- THE SECOND FORM's CARD OF 'scarfjointlaw28.DerivationFormat'. -/
def derivationFormatUptoCard : Claim7 := { stood := { row := derivationFormatUptoRow, standIns := [], harness := (true, "65088807df80f26d7211f10cecb30c75596b09202ff9963b1d56c34e7fa53c13"), looks := false }, kinds := [], alts := [], laidByText := true, laidKinds := [.data, .data, .data], laidTests := true, laidLooks := .later }
def DerivationFormatUptoCardSaid : Prop := Claim7.holds Tryz.pinned (.plain (OpenSpec.upto derivationFormatSpec)) derivationFormatUptoCard

/-- THE SECOND FORM's CARD OF 'scarfjointlaw28.DerivationParse'. -/
def derivationParseUptoCard : Claim7 := { stood := { row := derivationParseUptoRow, standIns := [], harness := (true, "65088807df80f26d7211f10cecb30c75596b09202ff9963b1d56c34e7fa53c13"), looks := false }, kinds := [], alts := [], laidByText := true, laidKinds := [.data, .data, .data], laidTests := true, laidLooks := .later }
def DerivationParseUptoCardSaid : Prop := Claim7.holds Tryz.pinned (.plain (OpenSpec.upto derivationParseSpec)) derivationParseUptoCard
end Rows
end Go.Proofs.YthhobbgaejimgaaGreatDoor
