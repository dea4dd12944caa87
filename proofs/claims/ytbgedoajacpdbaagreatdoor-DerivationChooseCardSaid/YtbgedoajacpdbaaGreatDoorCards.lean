/-
  DERIVED. GIVEN WITH THE SEED: THE CARDS: each row of YtbgedoajacpdbaaGreatDoorRows.lean that lists a variable, with what it lists TIED to the program's text (the seventh form; the later family's looks); each row that meets fmt, with fmt's text TOLD by the authors' own Lean function (tested against real Go, not proved from fmt's source: count such statements apart). THE CARD IS WHAT COUNTS. Prove the row's statement (the work); the ties are given (YtbgedoajacpdbaaGreatDoorTie.lean); close each card by the builder's one call (the guide's Derived/Test/ToyasCard.lean, 'card_holds'). Laid BY PROGRAM, IN A SANDBOX (cutbox-door.mjs). By AI agents, Wed Nov 11 2026. No macro, syntax, notation, axiom, sorry.
-/
import Derived.Test.YtbgedoajacpdbaaGreatDoorRows
import GoSem.ClaimSeven
namespace Go.Proofs.YtbgedoajacpdbaaGreatDoor
namespace Rows

/-- THE TIED CARD OF 'scarfjointlaw28.DerivationFinal'. -/
def derivationFinalCard : Claim7 := { stood := { row := derivationFinalRow, standIns := [], harness := (true, "861ff3766a97adb182fa939dbd8b4c0878652c50a4619d4f34e27c91b21eb2b9"), looks := false }, kinds := [], alts := [], laidByText := true, laidKinds := [.data, .data, .data], laidTests := true, laidLooks := .later }
def DerivationFinalCardSaid : Prop := Claim7.holds Tryz.pinned (.plain (OpenSpec.ofChange derivationFinalSpec)) derivationFinalCard

/-- THE TIED CARD OF 'scarfjointlaw28.DerivationChoose'. -/
def derivationChooseCard : Claim7 := { stood := { row := derivationChooseRow, standIns := [], harness := (true, "861ff3766a97adb182fa939dbd8b4c0878652c50a4619d4f34e27c91b21eb2b9"), looks := false }, kinds := [], alts := [], laidByText := true, laidKinds := [.data, .data, .data], laidTests := true, laidLooks := .later }
def DerivationChooseCardSaid : Prop := Claim7.holds Tryz.pinned (.plain (OpenSpec.ofChange derivationChooseSpec)) derivationChooseCard

/-- THE TIED CARD OF 'scarfjointlaw28.DerivationAppend'. -/
def derivationAppendCard : Claim7 := { stood := { row := derivationAppendRow, standIns := [], harness := (true, "861ff3766a97adb182fa939dbd8b4c0878652c50a4619d4f34e27c91b21eb2b9"), looks := false }, kinds := [], alts := [], laidByText := true, laidKinds := [.data, .data, .data], laidTests := true, laidLooks := .later }
def DerivationAppendCardSaid : Prop := Claim7.holds Tryz.pinned (.plain (OpenSpec.ofChange derivationAppendSpec)) derivationAppendCard

/-- THE TIED CARD OF 'scarfjointlaw28.DerivationAppends'. -/
def derivationAppendsCard : Claim7 := { stood := { row := derivationAppendsRow, standIns := [], harness := (true, "861ff3766a97adb182fa939dbd8b4c0878652c50a4619d4f34e27c91b21eb2b9"), looks := false }, kinds := [], alts := [], laidByText := true, laidKinds := [.data, .data, .data], laidTests := true, laidLooks := .later }
def DerivationAppendsCardSaid : Prop := Claim7.holds Tryz.pinned (.plain (OpenSpec.ofChange derivationAppendsSpec)) derivationAppendsCard

/-- THE TIED CARD OF 'scarfjointlaw28.DerivationTransfer'. -/
def derivationTransferCard : Claim7 := { stood := { row := derivationTransferRow, standIns := [], harness := (true, "861ff3766a97adb182fa939dbd8b4c0878652c50a4619d4f34e27c91b21eb2b9"), looks := false }, kinds := [], alts := [], laidByText := true, laidKinds := [.data, .data, .data], laidTests := true, laidLooks := .later }
def DerivationTransferCardSaid : Prop := Claim7.holds Tryz.pinned (.plain (OpenSpec.ofChange derivationTransferSpec)) derivationTransferCard

/-- THE TIED CARD OF 'scarfjointlaw28.DerivationTransfers'. -/
def derivationTransfersCard : Claim7 := { stood := { row := derivationTransfersRow, standIns := [], harness := (true, "861ff3766a97adb182fa939dbd8b4c0878652c50a4619d4f34e27c91b21eb2b9"), looks := false }, kinds := [], alts := [], laidByText := true, laidKinds := [.data, .data, .data], laidTests := true, laidLooks := .later }
def DerivationTransfersCardSaid : Prop := Claim7.holds Tryz.pinned (.plain (OpenSpec.ofChange derivationTransfersSpec)) derivationTransfersCard

/-- THE SECOND FORM's CARD OF 'scarfjointlaw28.DerivationFinal'. -/
def derivationFinalUptoCard : Claim7 := { stood := { row := derivationFinalUptoRow, standIns := [], harness := (true, "861ff3766a97adb182fa939dbd8b4c0878652c50a4619d4f34e27c91b21eb2b9"), looks := false }, kinds := [], alts := [], laidByText := true, laidKinds := [.data, .data, .data], laidTests := true, laidLooks := .later }
def DerivationFinalUptoCardSaid : Prop := Claim7.holds Tryz.pinned (.plain (OpenSpec.upto derivationFinalSpec)) derivationFinalUptoCard

/-- THE SECOND FORM's CARD OF 'scarfjointlaw28.DerivationChoose'. -/
def derivationChooseUptoCard : Claim7 := { stood := { row := derivationChooseUptoRow, standIns := [], harness := (true, "861ff3766a97adb182fa939dbd8b4c0878652c50a4619d4f34e27c91b21eb2b9"), looks := false }, kinds := [], alts := [], laidByText := true, laidKinds := [.data, .data, .data], laidTests := true, laidLooks := .later }
def DerivationChooseUptoCardSaid : Prop := Claim7.holds Tryz.pinned (.plain (OpenSpec.upto derivationChooseSpec)) derivationChooseUptoCard

/-- THE SECOND FORM's CARD OF 'scarfjointlaw28.DerivationAppend'. -/
def derivationAppendUptoCard : Claim7 := { stood := { row := derivationAppendUptoRow, standIns := [], harness := (true, "861ff3766a97adb182fa939dbd8b4c0878652c50a4619d4f34e27c91b21eb2b9"), looks := false }, kinds := [], alts := [], laidByText := true, laidKinds := [.data, .data, .data], laidTests := true, laidLooks := .later }
def DerivationAppendUptoCardSaid : Prop := Claim7.holds Tryz.pinned (.plain (OpenSpec.upto derivationAppendSpec)) derivationAppendUptoCard

/-- THE SECOND FORM's CARD OF 'scarfjointlaw28.DerivationAppends'. -/
def derivationAppendsUptoCard : Claim7 := { stood := { row := derivationAppendsUptoRow, standIns := [], harness := (true, "861ff3766a97adb182fa939dbd8b4c0878652c50a4619d4f34e27c91b21eb2b9"), looks := false }, kinds := [], alts := [], laidByText := true, laidKinds := [.data, .data, .data], laidTests := true, laidLooks := .later }
def DerivationAppendsUptoCardSaid : Prop := Claim7.holds Tryz.pinned (.plain (OpenSpec.upto derivationAppendsSpec)) derivationAppendsUptoCard

/-- THE SECOND FORM's CARD OF 'scarfjointlaw28.DerivationTransfer'. -/
def derivationTransferUptoCard : Claim7 := { stood := { row := derivationTransferUptoRow, standIns := [], harness := (true, "861ff3766a97adb182fa939dbd8b4c0878652c50a4619d4f34e27c91b21eb2b9"), looks := false }, kinds := [], alts := [], laidByText := true, laidKinds := [.data, .data, .data], laidTests := true, laidLooks := .later }
def DerivationTransferUptoCardSaid : Prop := Claim7.holds Tryz.pinned (.plain (OpenSpec.upto derivationTransferSpec)) derivationTransferUptoCard

/-- THE SECOND FORM's CARD OF 'scarfjointlaw28.DerivationTransfers'. -/
def derivationTransfersUptoCard : Claim7 := { stood := { row := derivationTransfersUptoRow, standIns := [], harness := (true, "861ff3766a97adb182fa939dbd8b4c0878652c50a4619d4f34e27c91b21eb2b9"), looks := false }, kinds := [], alts := [], laidByText := true, laidKinds := [.data, .data, .data], laidTests := true, laidLooks := .later }
def DerivationTransfersUptoCardSaid : Prop := Claim7.holds Tryz.pinned (.plain (OpenSpec.upto derivationTransfersSpec)) derivationTransfersUptoCard
end Rows
end Go.Proofs.YtbgedoajacpdbaaGreatDoor
