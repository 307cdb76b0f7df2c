/-
  DERIVED. GIVEN WITH THE SEED: THE CARDS: each row of YtgnkcohlfdddnaaDoorRows.lean that lists a variable, with what it lists TIED to the program's text (the seventh form; the later family's looks); each row that meets fmt, with fmt's text TOLD by the authors' own Lean function (tested against real Go, not proved from fmt's source: count such statements apart). THE CARD IS WHAT COUNTS. Prove the row's statement (the work); the ties are given (YtgnkcohlfdddnaaDoorTie.lean); close each card by the builder's one call (the guide's Derived/Test/ToyasCard.lean, 'card_holds'). Laid BY PROGRAM, IN A SANDBOX (cutbox-door.mjs). By AI agents, Wed Nov 11 2026. No macro, syntax, notation, axiom, sorry.
-/
import Derived.Test.YtgnkcohlfdddnaaDoorRows
import GoSem.ClaimSeven
namespace Go.Proofs.YtgnkcohlfdddnaaDoor
namespace Rows

/-- THE TIED CARD OF 'sederuntlaw22.FederatedMinimal'. -/
def federatedMinimalCard : Claim7 := { stood := { row := federatedMinimalRow, standIns := [], harness := (true, "72c45158361ff96b5167eb7c94b88df92374a2296a1e1da183cd11739b884aaf"), looks := false }, kinds := [], alts := [], laidByText := true, laidKinds := [.data], laidTests := true, laidLooks := .later }
def FederatedMinimalCardSaid : Prop := Claim7.holds Tryd.pinned (.plain (OpenSpec.ofChange federatedMinimalSpec)) federatedMinimalCard

/-- THE TIED CARD OF 'sederuntlaw22.FederatedBlocks'. -/
def federatedBlocksCard : Claim7 := { stood := { row := federatedBlocksRow, standIns := [], harness := (true, "72c45158361ff96b5167eb7c94b88df92374a2296a1e1da183cd11739b884aaf"), looks := false }, kinds := [], alts := [], laidByText := true, laidKinds := [.data], laidTests := true, laidLooks := .later }
def FederatedBlocksCardSaid : Prop := Claim7.holds Tryd.pinned (.plain (OpenSpec.ofChange federatedBlocksSpec)) federatedBlocksCard

/-- THE TIED CARD OF 'sederuntlaw22.FederatedSplit'. -/
def federatedSplitCard : Claim7 := { stood := { row := federatedSplitRow, standIns := [], harness := (true, "72c45158361ff96b5167eb7c94b88df92374a2296a1e1da183cd11739b884aaf"), looks := false }, kinds := [], alts := [], laidByText := true, laidKinds := [.data], laidTests := true, laidLooks := .later }
def FederatedSplitCardSaid : Prop := Claim7.holds Tryd.pinned (.plain (OpenSpec.ofChange federatedSplitSpec)) federatedSplitCard

/-- THE TIED CARD OF 'sederuntlaw22.FederatedSpread'. -/
def federatedSpreadCard : Claim7 := { stood := { row := federatedSpreadRow, standIns := [], harness := (true, "72c45158361ff96b5167eb7c94b88df92374a2296a1e1da183cd11739b884aaf"), looks := false }, kinds := [], alts := [], laidByText := true, laidKinds := [.data], laidTests := true, laidLooks := .later }
def FederatedSpreadCardSaid : Prop := Claim7.holds Tryd.pinned (.plain (OpenSpec.ofChange federatedSpreadSpec)) federatedSpreadCard

/-- THE TIED CARD OF 'sederuntlaw22.FederatedDelete'. -/
def federatedDeleteCard : Claim7 := { stood := { row := federatedDeleteRow, standIns := [], harness := (true, "72c45158361ff96b5167eb7c94b88df92374a2296a1e1da183cd11739b884aaf"), looks := false }, kinds := [], alts := [], laidByText := true, laidKinds := [.data], laidTests := true, laidLooks := .later }
def FederatedDeleteCardSaid : Prop := Claim7.holds Tryd.pinned (.plain (OpenSpec.ofChange federatedDeleteSpec)) federatedDeleteCard

/-- THE TIED CARD OF 'sederuntlaw22.FederatedValid'. -/
def federatedValidCard : Claim7 := { stood := { row := federatedValidRow, standIns := [], harness := (true, "72c45158361ff96b5167eb7c94b88df92374a2296a1e1da183cd11739b884aaf"), looks := false }, kinds := [], alts := [], laidByText := true, laidKinds := [.data], laidTests := true, laidLooks := .later }
def FederatedValidCardSaid : Prop := Claim7.holds Tryd.pinned (.plain (OpenSpec.ofChange federatedValidSpec)) federatedValidCard

/-- THE TIED CARD OF 'sederuntlaw22.FederatedQuorum'. -/
def federatedQuorumCard : Claim7 := { stood := { row := federatedQuorumRow, standIns := [], harness := (true, "72c45158361ff96b5167eb7c94b88df92374a2296a1e1da183cd11739b884aaf"), looks := false }, kinds := [], alts := [], laidByText := true, laidKinds := [.data], laidTests := true, laidLooks := .later }
def FederatedQuorumCardSaid : Prop := Claim7.holds Tryd.pinned (.plain (OpenSpec.ofChange federatedQuorumSpec)) federatedQuorumCard

/-- THE TIED CARD OF 'sederuntlaw22.FederatedUnion'. -/
def federatedUnionCard : Claim7 := { stood := { row := federatedUnionRow, standIns := [], harness := (true, "72c45158361ff96b5167eb7c94b88df92374a2296a1e1da183cd11739b884aaf"), looks := false }, kinds := [], alts := [], laidByText := true, laidKinds := [.data], laidTests := true, laidLooks := .later }
def FederatedUnionCardSaid : Prop := Claim7.holds Tryd.pinned (.plain (OpenSpec.ofChange federatedUnionSpec)) federatedUnionCard

/-- THE SECOND FORM's CARD OF 'sederuntlaw22.FederatedMinimal'. -/
def federatedMinimalUptoCard : Claim7 := { stood := { row := federatedMinimalUptoRow, standIns := [], harness := (true, "72c45158361ff96b5167eb7c94b88df92374a2296a1e1da183cd11739b884aaf"), looks := false }, kinds := [], alts := [], laidByText := true, laidKinds := [.data], laidTests := true, laidLooks := .later }
def FederatedMinimalUptoCardSaid : Prop := Claim7.holds Tryd.pinned (.plain (OpenSpec.upto federatedMinimalSpec)) federatedMinimalUptoCard

/-- THE SECOND FORM's CARD OF 'sederuntlaw22.FederatedBlocks'. -/
def federatedBlocksUptoCard : Claim7 := { stood := { row := federatedBlocksUptoRow, standIns := [], harness := (true, "72c45158361ff96b5167eb7c94b88df92374a2296a1e1da183cd11739b884aaf"), looks := false }, kinds := [], alts := [], laidByText := true, laidKinds := [.data], laidTests := true, laidLooks := .later }
def FederatedBlocksUptoCardSaid : Prop := Claim7.holds Tryd.pinned (.plain (OpenSpec.upto federatedBlocksSpec)) federatedBlocksUptoCard

/-- THE SECOND FORM's CARD OF 'sederuntlaw22.FederatedSplit'. -/
def federatedSplitUptoCard : Claim7 := { stood := { row := federatedSplitUptoRow, standIns := [], harness := (true, "72c45158361ff96b5167eb7c94b88df92374a2296a1e1da183cd11739b884aaf"), looks := false }, kinds := [], alts := [], laidByText := true, laidKinds := [.data], laidTests := true, laidLooks := .later }
def FederatedSplitUptoCardSaid : Prop := Claim7.holds Tryd.pinned (.plain (OpenSpec.upto federatedSplitSpec)) federatedSplitUptoCard

/-- THE SECOND FORM's CARD OF 'sederuntlaw22.FederatedSpread'. -/
def federatedSpreadUptoCard : Claim7 := { stood := { row := federatedSpreadUptoRow, standIns := [], harness := (true, "72c45158361ff96b5167eb7c94b88df92374a2296a1e1da183cd11739b884aaf"), looks := false }, kinds := [], alts := [], laidByText := true, laidKinds := [.data], laidTests := true, laidLooks := .later }
def FederatedSpreadUptoCardSaid : Prop := Claim7.holds Tryd.pinned (.plain (OpenSpec.upto federatedSpreadSpec)) federatedSpreadUptoCard

/-- THE SECOND FORM's CARD OF 'sederuntlaw22.FederatedDelete'. -/
def federatedDeleteUptoCard : Claim7 := { stood := { row := federatedDeleteUptoRow, standIns := [], harness := (true, "72c45158361ff96b5167eb7c94b88df92374a2296a1e1da183cd11739b884aaf"), looks := false }, kinds := [], alts := [], laidByText := true, laidKinds := [.data], laidTests := true, laidLooks := .later }
def FederatedDeleteUptoCardSaid : Prop := Claim7.holds Tryd.pinned (.plain (OpenSpec.upto federatedDeleteSpec)) federatedDeleteUptoCard

/-- THE SECOND FORM's CARD OF 'sederuntlaw22.FederatedValid'. -/
def federatedValidUptoCard : Claim7 := { stood := { row := federatedValidUptoRow, standIns := [], harness := (true, "72c45158361ff96b5167eb7c94b88df92374a2296a1e1da183cd11739b884aaf"), looks := false }, kinds := [], alts := [], laidByText := true, laidKinds := [.data], laidTests := true, laidLooks := .later }
def FederatedValidUptoCardSaid : Prop := Claim7.holds Tryd.pinned (.plain (OpenSpec.upto federatedValidSpec)) federatedValidUptoCard

/-- THE SECOND FORM's CARD OF 'sederuntlaw22.FederatedQuorum'. -/
def federatedQuorumUptoCard : Claim7 := { stood := { row := federatedQuorumUptoRow, standIns := [], harness := (true, "72c45158361ff96b5167eb7c94b88df92374a2296a1e1da183cd11739b884aaf"), looks := false }, kinds := [], alts := [], laidByText := true, laidKinds := [.data], laidTests := true, laidLooks := .later }
def FederatedQuorumUptoCardSaid : Prop := Claim7.holds Tryd.pinned (.plain (OpenSpec.upto federatedQuorumSpec)) federatedQuorumUptoCard

/-- THE SECOND FORM's CARD OF 'sederuntlaw22.FederatedUnion'. -/
def federatedUnionUptoCard : Claim7 := { stood := { row := federatedUnionUptoRow, standIns := [], harness := (true, "72c45158361ff96b5167eb7c94b88df92374a2296a1e1da183cd11739b884aaf"), looks := false }, kinds := [], alts := [], laidByText := true, laidKinds := [.data], laidTests := true, laidLooks := .later }
def FederatedUnionUptoCardSaid : Prop := Claim7.holds Tryd.pinned (.plain (OpenSpec.upto federatedUnionSpec)) federatedUnionUptoCard
end Rows
end Go.Proofs.YtgnkcohlfdddnaaDoor
