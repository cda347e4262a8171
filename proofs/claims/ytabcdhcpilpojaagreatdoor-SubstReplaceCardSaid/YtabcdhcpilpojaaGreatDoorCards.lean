/-
  DERIVED. GIVEN WITH THE SEED: THE CARDS: each row of YtabcdhcpilpojaaGreatDoorRows.lean that lists a variable, with what it lists TIED to the program's text (the seventh form; the later family's looks); each row that meets fmt, with fmt's text TOLD by the authors' own Lean function (tested against real Go, not proved from fmt's source: count such statements apart). THE CARD IS WHAT COUNTS. Prove the row's statement (the work); the ties are given (YtabcdhcpilpojaaGreatDoorTie.lean); close each card by the builder's one call (the guide's Derived/Test/ToyasCard.lean, 'card_holds'). Laid BY PROGRAM, IN A SANDBOX (cutbox-door.mjs). By AI agents, Wed Nov 11 2026. No macro, syntax, notation, axiom, sorry.
-/
import Derived.Test.YtabcdhcpilpojaaGreatDoorRows
import GoSem.ClaimSeven
namespace Go.Proofs.YtabcdhcpilpojaaGreatDoor
namespace Rows

/-- THE TIED CARD OF 'chcsolverlaw05.SubstApply'. -/
def substApplyCard : Claim7 := { stood := { row := substApplyRow, standIns := [], harness := (true, "5850a60eb061d3f20cda0ea7c57a02d729884ddfe4b31a336aa9f997a2f0ce52"), looks := true }, kinds := [], alts := [], laidByText := true, laidKinds := [.data, .data, .data, .sentinel, .sentinel], laidTests := true, laidLooks := .later }
def SubstApplyCardSaid : Prop := Claim7.holds Tryz.pinned (.plain (OpenSpec.ofChange substApplySpec)) substApplyCard

/-- THE TIED CARD OF 'chcsolverlaw05.SubstValue'. -/
def substValueCard : Claim7 := { stood := { row := substValueRow, standIns := [], harness := (true, "5850a60eb061d3f20cda0ea7c57a02d729884ddfe4b31a336aa9f997a2f0ce52"), looks := true }, kinds := [], alts := [], laidByText := true, laidKinds := [.data, .data, .data, .sentinel, .sentinel], laidTests := true, laidLooks := .later }
def SubstValueCardSaid : Prop := Claim7.holds Tryz.pinned (.plain (OpenSpec.ofChange substValueSpec)) substValueCard

/-- THE TIED CARD OF 'chcsolverlaw05.SubstFresh'. -/
def substFreshCard : Claim7 := { stood := { row := substFreshRow, standIns := [], harness := (true, "5850a60eb061d3f20cda0ea7c57a02d729884ddfe4b31a336aa9f997a2f0ce52"), looks := true }, kinds := [], alts := [], laidByText := true, laidKinds := [.data, .data, .data, .sentinel, .sentinel], laidTests := true, laidLooks := .later }
def SubstFreshCardSaid : Prop := Claim7.holds Tryz.pinned (.plain (OpenSpec.ofChange substFreshSpec)) substFreshCard

/-- THE TIED CARD OF 'chcsolverlaw05.SubstApplyRaw'. -/
def substApplyRawCard : Claim7 := { stood := { row := substApplyRawRow, standIns := [], harness := (true, "5850a60eb061d3f20cda0ea7c57a02d729884ddfe4b31a336aa9f997a2f0ce52"), looks := true }, kinds := [], alts := [], laidByText := true, laidKinds := [.data, .data, .data, .sentinel, .sentinel], laidTests := true, laidLooks := .later }
def SubstApplyRawCardSaid : Prop := Claim7.holds Tryz.pinned (.plain (OpenSpec.ofChange substApplyRawSpec)) substApplyRawCard

/-- THE TIED CARD OF 'chcsolverlaw05.SubstReplace'. -/
def substReplaceCard : Claim7 := { stood := { row := substReplaceRow, standIns := [], harness := (true, "5850a60eb061d3f20cda0ea7c57a02d729884ddfe4b31a336aa9f997a2f0ce52"), looks := true }, kinds := [], alts := [], laidByText := true, laidKinds := [.data, .data, .data, .sentinel, .sentinel], laidTests := true, laidLooks := .later }
def SubstReplaceCardSaid : Prop := Claim7.holds Tryz.pinned (.plain (OpenSpec.ofChange substReplaceSpec)) substReplaceCard

/-- THE TIED CARD OF 'chcsolverlaw05.SubstReplaceValue'. -/
def substReplaceValueCard : Claim7 := { stood := { row := substReplaceValueRow, standIns := [], harness := (true, "5850a60eb061d3f20cda0ea7c57a02d729884ddfe4b31a336aa9f997a2f0ce52"), looks := true }, kinds := [], alts := [], laidByText := true, laidKinds := [.data, .data, .data, .sentinel, .sentinel], laidTests := true, laidLooks := .later }
def SubstReplaceValueCardSaid : Prop := Claim7.holds Tryz.pinned (.plain (OpenSpec.ofChange substReplaceValueSpec)) substReplaceValueCard

/-- THE TIED CARD OF 'chcsolverlaw05.SubstRename'. -/
def substRenameCard : Claim7 := { stood := { row := substRenameRow, standIns := [], harness := (true, "5850a60eb061d3f20cda0ea7c57a02d729884ddfe4b31a336aa9f997a2f0ce52"), looks := true }, kinds := [], alts := [], laidByText := true, laidKinds := [.data, .data, .data, .sentinel, .sentinel], laidTests := true, laidLooks := .later }
def SubstRenameCardSaid : Prop := Claim7.holds Tryz.pinned (.plain (OpenSpec.ofChange substRenameSpec)) substRenameCard

/-- THE TIED CARD OF 'chcsolverlaw05.SubstRenameBack'. -/
def substRenameBackCard : Claim7 := { stood := { row := substRenameBackRow, standIns := [], harness := (true, "5850a60eb061d3f20cda0ea7c57a02d729884ddfe4b31a336aa9f997a2f0ce52"), looks := true }, kinds := [], alts := [], laidByText := true, laidKinds := [.data, .data, .data, .sentinel, .sentinel], laidTests := true, laidLooks := .later }
def SubstRenameBackCardSaid : Prop := Claim7.holds Tryz.pinned (.plain (OpenSpec.ofChange substRenameBackSpec)) substRenameBackCard

/-- THE TIED CARD OF 'chcsolverlaw05.SubstDefinitions'. -/
def substDefinitionsCard : Claim7 := { stood := { row := substDefinitionsRow, standIns := [], harness := (true, "5850a60eb061d3f20cda0ea7c57a02d729884ddfe4b31a336aa9f997a2f0ce52"), looks := true }, kinds := [], alts := [], laidByText := true, laidKinds := [.data, .data, .data, .sentinel, .sentinel], laidTests := true, laidLooks := .later }
def SubstDefinitionsCardSaid : Prop := Claim7.holds Tryz.pinned (.plain (OpenSpec.ofChange substDefinitionsSpec)) substDefinitionsCard

/-- THE TIED CARD OF 'chcsolverlaw05.SubstCompose'. -/
def substComposeCard : Claim7 := { stood := { row := substComposeRow, standIns := [], harness := (true, "5850a60eb061d3f20cda0ea7c57a02d729884ddfe4b31a336aa9f997a2f0ce52"), looks := true }, kinds := [], alts := [], laidByText := true, laidKinds := [.data, .data, .data, .sentinel, .sentinel], laidTests := true, laidLooks := .later }
def SubstComposeCardSaid : Prop := Claim7.holds Tryz.pinned (.plain (OpenSpec.ofChange substComposeSpec)) substComposeCard

/-- THE SECOND FORM's CARD OF 'chcsolverlaw05.SubstApply'. -/
def substApplyUptoCard : Claim7 := { stood := { row := substApplyUptoRow, standIns := [], harness := (true, "5850a60eb061d3f20cda0ea7c57a02d729884ddfe4b31a336aa9f997a2f0ce52"), looks := true }, kinds := [], alts := [], laidByText := true, laidKinds := [.data, .data, .data, .sentinel, .sentinel], laidTests := true, laidLooks := .later }
def SubstApplyUptoCardSaid : Prop := Claim7.holds Tryz.pinned (.plain (OpenSpec.upto substApplySpec)) substApplyUptoCard

/-- THE SECOND FORM's CARD OF 'chcsolverlaw05.SubstValue'. -/
def substValueUptoCard : Claim7 := { stood := { row := substValueUptoRow, standIns := [], harness := (true, "5850a60eb061d3f20cda0ea7c57a02d729884ddfe4b31a336aa9f997a2f0ce52"), looks := true }, kinds := [], alts := [], laidByText := true, laidKinds := [.data, .data, .data, .sentinel, .sentinel], laidTests := true, laidLooks := .later }
def SubstValueUptoCardSaid : Prop := Claim7.holds Tryz.pinned (.plain (OpenSpec.upto substValueSpec)) substValueUptoCard

/-- THE SECOND FORM's CARD OF 'chcsolverlaw05.SubstFresh'. -/
def substFreshUptoCard : Claim7 := { stood := { row := substFreshUptoRow, standIns := [], harness := (true, "5850a60eb061d3f20cda0ea7c57a02d729884ddfe4b31a336aa9f997a2f0ce52"), looks := true }, kinds := [], alts := [], laidByText := true, laidKinds := [.data, .data, .data, .sentinel, .sentinel], laidTests := true, laidLooks := .later }
def SubstFreshUptoCardSaid : Prop := Claim7.holds Tryz.pinned (.plain (OpenSpec.upto substFreshSpec)) substFreshUptoCard

/-- THE SECOND FORM's CARD OF 'chcsolverlaw05.SubstApplyRaw'. -/
def substApplyRawUptoCard : Claim7 := { stood := { row := substApplyRawUptoRow, standIns := [], harness := (true, "5850a60eb061d3f20cda0ea7c57a02d729884ddfe4b31a336aa9f997a2f0ce52"), looks := true }, kinds := [], alts := [], laidByText := true, laidKinds := [.data, .data, .data, .sentinel, .sentinel], laidTests := true, laidLooks := .later }
def SubstApplyRawUptoCardSaid : Prop := Claim7.holds Tryz.pinned (.plain (OpenSpec.upto substApplyRawSpec)) substApplyRawUptoCard

/-- THE SECOND FORM's CARD OF 'chcsolverlaw05.SubstReplace'. -/
def substReplaceUptoCard : Claim7 := { stood := { row := substReplaceUptoRow, standIns := [], harness := (true, "5850a60eb061d3f20cda0ea7c57a02d729884ddfe4b31a336aa9f997a2f0ce52"), looks := true }, kinds := [], alts := [], laidByText := true, laidKinds := [.data, .data, .data, .sentinel, .sentinel], laidTests := true, laidLooks := .later }
def SubstReplaceUptoCardSaid : Prop := Claim7.holds Tryz.pinned (.plain (OpenSpec.upto substReplaceSpec)) substReplaceUptoCard

/-- THE SECOND FORM's CARD OF 'chcsolverlaw05.SubstReplaceValue'. -/
def substReplaceValueUptoCard : Claim7 := { stood := { row := substReplaceValueUptoRow, standIns := [], harness := (true, "5850a60eb061d3f20cda0ea7c57a02d729884ddfe4b31a336aa9f997a2f0ce52"), looks := true }, kinds := [], alts := [], laidByText := true, laidKinds := [.data, .data, .data, .sentinel, .sentinel], laidTests := true, laidLooks := .later }
def SubstReplaceValueUptoCardSaid : Prop := Claim7.holds Tryz.pinned (.plain (OpenSpec.upto substReplaceValueSpec)) substReplaceValueUptoCard

/-- THE SECOND FORM's CARD OF 'chcsolverlaw05.SubstRename'. -/
def substRenameUptoCard : Claim7 := { stood := { row := substRenameUptoRow, standIns := [], harness := (true, "5850a60eb061d3f20cda0ea7c57a02d729884ddfe4b31a336aa9f997a2f0ce52"), looks := true }, kinds := [], alts := [], laidByText := true, laidKinds := [.data, .data, .data, .sentinel, .sentinel], laidTests := true, laidLooks := .later }
def SubstRenameUptoCardSaid : Prop := Claim7.holds Tryz.pinned (.plain (OpenSpec.upto substRenameSpec)) substRenameUptoCard

/-- THE SECOND FORM's CARD OF 'chcsolverlaw05.SubstRenameBack'. -/
def substRenameBackUptoCard : Claim7 := { stood := { row := substRenameBackUptoRow, standIns := [], harness := (true, "5850a60eb061d3f20cda0ea7c57a02d729884ddfe4b31a336aa9f997a2f0ce52"), looks := true }, kinds := [], alts := [], laidByText := true, laidKinds := [.data, .data, .data, .sentinel, .sentinel], laidTests := true, laidLooks := .later }
def SubstRenameBackUptoCardSaid : Prop := Claim7.holds Tryz.pinned (.plain (OpenSpec.upto substRenameBackSpec)) substRenameBackUptoCard

/-- THE SECOND FORM's CARD OF 'chcsolverlaw05.SubstDefinitions'. -/
def substDefinitionsUptoCard : Claim7 := { stood := { row := substDefinitionsUptoRow, standIns := [], harness := (true, "5850a60eb061d3f20cda0ea7c57a02d729884ddfe4b31a336aa9f997a2f0ce52"), looks := true }, kinds := [], alts := [], laidByText := true, laidKinds := [.data, .data, .data, .sentinel, .sentinel], laidTests := true, laidLooks := .later }
def SubstDefinitionsUptoCardSaid : Prop := Claim7.holds Tryz.pinned (.plain (OpenSpec.upto substDefinitionsSpec)) substDefinitionsUptoCard

/-- THE SECOND FORM's CARD OF 'chcsolverlaw05.SubstCompose'. -/
def substComposeUptoCard : Claim7 := { stood := { row := substComposeUptoRow, standIns := [], harness := (true, "5850a60eb061d3f20cda0ea7c57a02d729884ddfe4b31a336aa9f997a2f0ce52"), looks := true }, kinds := [], alts := [], laidByText := true, laidKinds := [.data, .data, .data, .sentinel, .sentinel], laidTests := true, laidLooks := .later }
def SubstComposeUptoCardSaid : Prop := Claim7.holds Tryz.pinned (.plain (OpenSpec.upto substComposeSpec)) substComposeUptoCard
end Rows
end Go.Proofs.YtabcdhcpilpojaaGreatDoor
