/-
  DERIVED. GIVEN WITH THE SEED: THE CARDS: each row of YtpbgfmbkjojdeaaDoorRows.lean that lists a variable, with what it lists TIED to the program's text (the seventh form; the later family's looks); each row that meets fmt, with fmt's text TOLD by the authors' own Lean function (tested against real Go, not proved from fmt's source: count such statements apart). THE CARD IS WHAT COUNTS. Prove the row's statement (the work); the ties are given (YtpbgfmbkjojdeaaDoorTie.lean); close each card by the builder's one call (the guide's Derived/Test/ToyasCard.lean, 'card_holds'). Laid BY PROGRAM, IN A SANDBOX (cutbox-door.mjs). By AI agents, Wed Nov 11 2026. No macro, syntax, notation, axiom, sorry.
-/
import Derived.Test.YtpbgfmbkjojdeaaDoorRows
import GoSem.ClaimSeven
namespace Go.Proofs.YtpbgfmbkjojdeaaDoor
namespace Rows

/-- THE TIED CARD OF 'hornbeamlaw05.FracChains'. -/
def fracChainsCard : Claim7 := { stood := { row := fracChainsRow, standIns := [], harness := (true, "f532c86282420f8154323f45825c8cecdcf558660705327fdc40a1eb65a8879b"), looks := false }, kinds := [], alts := [], laidByText := true, laidKinds := [.data, .data, .data], laidTests := true, laidLooks := .later }
def FracChainsCardSaid : Prop := Claim7.holds Tryd.pinned (.plain (OpenSpec.ofChange fracChainsSpec)) fracChainsCard

/-- THE TIED CARD OF 'hornbeamlaw05.FracTexts'. -/
def fracTextsCard : Claim7 := { stood := { row := fracTextsRow, standIns := [], harness := (true, "f532c86282420f8154323f45825c8cecdcf558660705327fdc40a1eb65a8879b"), looks := false }, kinds := [], alts := [], laidByText := true, laidKinds := [.data, .data, .data], laidTests := true, laidLooks := .later }
def FracTextsCardSaid : Prop := Claim7.holds Tryd.pinned (.plain (OpenSpec.ofChange fracTextsSpec)) fracTextsCard

/-- THE TIED CARD OF 'hornbeamlaw05.FracBest'. -/
def fracBestCard : Claim7 := { stood := { row := fracBestRow, standIns := [], harness := (true, "f532c86282420f8154323f45825c8cecdcf558660705327fdc40a1eb65a8879b"), looks := false }, kinds := [], alts := [], laidByText := true, laidKinds := [.data, .data, .data], laidTests := true, laidLooks := .later }
def FracBestCardSaid : Prop := Claim7.holds Tryd.pinned (.plain (OpenSpec.ofChange fracBestSpec)) fracBestCard

/-- THE TIED CARD OF 'hornbeamlaw05.FracOrder'. -/
def fracOrderCard : Claim7 := { stood := { row := fracOrderRow, standIns := [], harness := (true, "f532c86282420f8154323f45825c8cecdcf558660705327fdc40a1eb65a8879b"), looks := false }, kinds := [], alts := [], laidByText := true, laidKinds := [.data, .data, .data], laidTests := true, laidLooks := .later }
def FracOrderCardSaid : Prop := Claim7.holds Tryd.pinned (.plain (OpenSpec.ofChange fracOrderSpec)) fracOrderCard

/-- THE TIED CARD OF 'hornbeamlaw05.FracSame'. -/
def fracSameCard : Claim7 := { stood := { row := fracSameRow, standIns := [], harness := (true, "f532c86282420f8154323f45825c8cecdcf558660705327fdc40a1eb65a8879b"), looks := false }, kinds := [], alts := [], laidByText := true, laidKinds := [.data, .data, .data], laidTests := true, laidLooks := .later }
def FracSameCardSaid : Prop := Claim7.holds Tryd.pinned (.plain (OpenSpec.ofChange fracSameSpec)) fracSameCard

/-- THE SECOND FORM's CARD OF 'hornbeamlaw05.FracChains'. -/
def fracChainsUptoCard : Claim7 := { stood := { row := fracChainsUptoRow, standIns := [], harness := (true, "f532c86282420f8154323f45825c8cecdcf558660705327fdc40a1eb65a8879b"), looks := false }, kinds := [], alts := [], laidByText := true, laidKinds := [.data, .data, .data], laidTests := true, laidLooks := .later }
def FracChainsUptoCardSaid : Prop := Claim7.holds Tryd.pinned (.plain (OpenSpec.upto fracChainsSpec)) fracChainsUptoCard

/-- THE SECOND FORM's CARD OF 'hornbeamlaw05.FracTexts'. -/
def fracTextsUptoCard : Claim7 := { stood := { row := fracTextsUptoRow, standIns := [], harness := (true, "f532c86282420f8154323f45825c8cecdcf558660705327fdc40a1eb65a8879b"), looks := false }, kinds := [], alts := [], laidByText := true, laidKinds := [.data, .data, .data], laidTests := true, laidLooks := .later }
def FracTextsUptoCardSaid : Prop := Claim7.holds Tryd.pinned (.plain (OpenSpec.upto fracTextsSpec)) fracTextsUptoCard

/-- THE SECOND FORM's CARD OF 'hornbeamlaw05.FracBest'. -/
def fracBestUptoCard : Claim7 := { stood := { row := fracBestUptoRow, standIns := [], harness := (true, "f532c86282420f8154323f45825c8cecdcf558660705327fdc40a1eb65a8879b"), looks := false }, kinds := [], alts := [], laidByText := true, laidKinds := [.data, .data, .data], laidTests := true, laidLooks := .later }
def FracBestUptoCardSaid : Prop := Claim7.holds Tryd.pinned (.plain (OpenSpec.upto fracBestSpec)) fracBestUptoCard

/-- THE SECOND FORM's CARD OF 'hornbeamlaw05.FracOrder'. -/
def fracOrderUptoCard : Claim7 := { stood := { row := fracOrderUptoRow, standIns := [], harness := (true, "f532c86282420f8154323f45825c8cecdcf558660705327fdc40a1eb65a8879b"), looks := false }, kinds := [], alts := [], laidByText := true, laidKinds := [.data, .data, .data], laidTests := true, laidLooks := .later }
def FracOrderUptoCardSaid : Prop := Claim7.holds Tryd.pinned (.plain (OpenSpec.upto fracOrderSpec)) fracOrderUptoCard

/-- THE SECOND FORM's CARD OF 'hornbeamlaw05.FracSame'. -/
def fracSameUptoCard : Claim7 := { stood := { row := fracSameUptoRow, standIns := [], harness := (true, "f532c86282420f8154323f45825c8cecdcf558660705327fdc40a1eb65a8879b"), looks := false }, kinds := [], alts := [], laidByText := true, laidKinds := [.data, .data, .data], laidTests := true, laidLooks := .later }
def FracSameUptoCardSaid : Prop := Claim7.holds Tryd.pinned (.plain (OpenSpec.upto fracSameSpec)) fracSameUptoCard
end Rows
end Go.Proofs.YtpbgfmbkjojdeaaDoor
