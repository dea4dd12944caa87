/-
  DERIVED. GIVEN WITH THE SEED: THE CARDS: each row of YtlbmpkmkmkgniaaGreatDoorRows.lean that lists a variable, with what it lists TIED to the program's text (the seventh form; the later family's looks); each row that meets fmt, with fmt's text TOLD by the authors' own Lean function (tested against real Go, not proved from fmt's source: count such statements apart). THE CARD IS WHAT COUNTS. Prove the row's statement (the work); the ties are given (YtlbmpkmkmkgniaaGreatDoorTie.lean); close each card by the builder's one call (the guide's Derived/Test/ToyasCard.lean, 'card_holds'). Laid BY PROGRAM, IN A SANDBOX (cutbox-door.mjs). By AI agents, Wed Nov 11 2026. No macro, syntax, notation, axiom, sorry.
-/
import Derived.Test.YtlbmpkmkmkgniaaGreatDoorRows
import GoSem.ClaimSeven
namespace Go.Proofs.YtlbmpkmkmkgniaaGreatDoor
namespace Rows

/-- THE TIED CARD OF 'scarfjointlaw23.ExplainExplain'. -/
def explainExplainCard : Claim7 := { stood := { row := explainExplainRow, standIns := [], harness := (true, "c921fc44d8610c9993e0e4f921ff1cbe5938a80994765491d6d95cd493d05d18"), looks := false }, kinds := [], alts := [], laidByText := true, laidKinds := [.data, .data, .data], laidTests := true, laidLooks := .later }
def ExplainExplainCardSaid : Prop := Claim7.holds Tryz.pinned (.plain (OpenSpec.ofChange explainExplainSpec)) explainExplainCard

/-- THE TIED CARD OF 'scarfjointlaw23.ExplainCheck'. -/
def explainCheckCard : Claim7 := { stood := { row := explainCheckRow, standIns := [], harness := (true, "c921fc44d8610c9993e0e4f921ff1cbe5938a80994765491d6d95cd493d05d18"), looks := false }, kinds := [], alts := [], laidByText := true, laidKinds := [.data, .data, .data], laidTests := true, laidLooks := .later }
def ExplainCheckCardSaid : Prop := Claim7.holds Tryz.pinned (.plain (OpenSpec.ofChange explainCheckSpec)) explainCheckCard

/-- THE TIED CARD OF 'scarfjointlaw23.ExplainRepair'. -/
def explainRepairCard : Claim7 := { stood := { row := explainRepairRow, standIns := [], harness := (true, "c921fc44d8610c9993e0e4f921ff1cbe5938a80994765491d6d95cd493d05d18"), looks := false }, kinds := [], alts := [], laidByText := true, laidKinds := [.data, .data, .data], laidTests := true, laidLooks := .later }
def ExplainRepairCardSaid : Prop := Claim7.holds Tryz.pinned (.plain (OpenSpec.ofChange explainRepairSpec)) explainRepairCard

/-- THE TIED CARD OF 'scarfjointlaw23.ExplainNone'. -/
def explainNoneCard : Claim7 := { stood := { row := explainNoneRow, standIns := [], harness := (true, "c921fc44d8610c9993e0e4f921ff1cbe5938a80994765491d6d95cd493d05d18"), looks := false }, kinds := [], alts := [], laidByText := true, laidKinds := [.data, .data, .data], laidTests := true, laidLooks := .later }
def ExplainNoneCardSaid : Prop := Claim7.holds Tryz.pinned (.plain (OpenSpec.ofChange explainNoneSpec)) explainNoneCard

/-- THE TIED CARD OF 'scarfjointlaw23.ExplainPaths'. -/
def explainPathsCard : Claim7 := { stood := { row := explainPathsRow, standIns := [], harness := (true, "c921fc44d8610c9993e0e4f921ff1cbe5938a80994765491d6d95cd493d05d18"), looks := false }, kinds := [], alts := [], laidByText := true, laidKinds := [.data, .data, .data], laidTests := true, laidLooks := .later }
def ExplainPathsCardSaid : Prop := Claim7.holds Tryz.pinned (.plain (OpenSpec.ofChange explainPathsSpec)) explainPathsCard

/-- THE TIED CARD OF 'scarfjointlaw23.ExplainSubgraph'. -/
def explainSubgraphCard : Claim7 := { stood := { row := explainSubgraphRow, standIns := [], harness := (true, "c921fc44d8610c9993e0e4f921ff1cbe5938a80994765491d6d95cd493d05d18"), looks := false }, kinds := [], alts := [], laidByText := true, laidKinds := [.data, .data, .data], laidTests := true, laidLooks := .later }
def ExplainSubgraphCardSaid : Prop := Claim7.holds Tryz.pinned (.plain (OpenSpec.ofChange explainSubgraphSpec)) explainSubgraphCard

/-- THE SECOND FORM's CARD OF 'scarfjointlaw23.ExplainExplain'. -/
def explainExplainUptoCard : Claim7 := { stood := { row := explainExplainUptoRow, standIns := [], harness := (true, "c921fc44d8610c9993e0e4f921ff1cbe5938a80994765491d6d95cd493d05d18"), looks := false }, kinds := [], alts := [], laidByText := true, laidKinds := [.data, .data, .data], laidTests := true, laidLooks := .later }
def ExplainExplainUptoCardSaid : Prop := Claim7.holds Tryz.pinned (.plain (OpenSpec.upto explainExplainSpec)) explainExplainUptoCard

/-- THE SECOND FORM's CARD OF 'scarfjointlaw23.ExplainCheck'. -/
def explainCheckUptoCard : Claim7 := { stood := { row := explainCheckUptoRow, standIns := [], harness := (true, "c921fc44d8610c9993e0e4f921ff1cbe5938a80994765491d6d95cd493d05d18"), looks := false }, kinds := [], alts := [], laidByText := true, laidKinds := [.data, .data, .data], laidTests := true, laidLooks := .later }
def ExplainCheckUptoCardSaid : Prop := Claim7.holds Tryz.pinned (.plain (OpenSpec.upto explainCheckSpec)) explainCheckUptoCard

/-- THE SECOND FORM's CARD OF 'scarfjointlaw23.ExplainRepair'. -/
def explainRepairUptoCard : Claim7 := { stood := { row := explainRepairUptoRow, standIns := [], harness := (true, "c921fc44d8610c9993e0e4f921ff1cbe5938a80994765491d6d95cd493d05d18"), looks := false }, kinds := [], alts := [], laidByText := true, laidKinds := [.data, .data, .data], laidTests := true, laidLooks := .later }
def ExplainRepairUptoCardSaid : Prop := Claim7.holds Tryz.pinned (.plain (OpenSpec.upto explainRepairSpec)) explainRepairUptoCard

/-- THE SECOND FORM's CARD OF 'scarfjointlaw23.ExplainNone'. -/
def explainNoneUptoCard : Claim7 := { stood := { row := explainNoneUptoRow, standIns := [], harness := (true, "c921fc44d8610c9993e0e4f921ff1cbe5938a80994765491d6d95cd493d05d18"), looks := false }, kinds := [], alts := [], laidByText := true, laidKinds := [.data, .data, .data], laidTests := true, laidLooks := .later }
def ExplainNoneUptoCardSaid : Prop := Claim7.holds Tryz.pinned (.plain (OpenSpec.upto explainNoneSpec)) explainNoneUptoCard

/-- THE SECOND FORM's CARD OF 'scarfjointlaw23.ExplainPaths'. -/
def explainPathsUptoCard : Claim7 := { stood := { row := explainPathsUptoRow, standIns := [], harness := (true, "c921fc44d8610c9993e0e4f921ff1cbe5938a80994765491d6d95cd493d05d18"), looks := false }, kinds := [], alts := [], laidByText := true, laidKinds := [.data, .data, .data], laidTests := true, laidLooks := .later }
def ExplainPathsUptoCardSaid : Prop := Claim7.holds Tryz.pinned (.plain (OpenSpec.upto explainPathsSpec)) explainPathsUptoCard

/-- THE SECOND FORM's CARD OF 'scarfjointlaw23.ExplainSubgraph'. -/
def explainSubgraphUptoCard : Claim7 := { stood := { row := explainSubgraphUptoRow, standIns := [], harness := (true, "c921fc44d8610c9993e0e4f921ff1cbe5938a80994765491d6d95cd493d05d18"), looks := false }, kinds := [], alts := [], laidByText := true, laidKinds := [.data, .data, .data], laidTests := true, laidLooks := .later }
def ExplainSubgraphUptoCardSaid : Prop := Claim7.holds Tryz.pinned (.plain (OpenSpec.upto explainSubgraphSpec)) explainSubgraphUptoCard
end Rows
end Go.Proofs.YtlbmpkmkmkgniaaGreatDoor
