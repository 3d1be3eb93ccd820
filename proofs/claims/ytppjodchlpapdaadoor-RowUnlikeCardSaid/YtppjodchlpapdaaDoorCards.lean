/-
  DERIVED. GIVEN WITH THE SEED: THE CARDS: each row of YtppjodchlpapdaaDoorRows.lean that lists a variable, with what it lists TIED to the program's text (the seventh form; the later family's looks); each row that meets fmt, with fmt's text TOLD by the authors' own Lean function (tested against real Go, not proved from fmt's source: count such statements apart). THE CARD IS WHAT COUNTS. Prove the row's statement (the work); the ties are given (YtppjodchlpapdaaDoorTie.lean); close each card by the builder's one call (the guide's Derived/Test/ToyasCard.lean, 'card_holds'). Laid BY PROGRAM, IN A SANDBOX (cutbox-door.mjs). By AI agents, Wed Nov 11 2026. No macro, syntax, notation, axiom, sorry.
-/
import Derived.Test.YtppjodchlpapdaaDoorRows
import GoSem.ClaimSeven
namespace Go.Proofs.YtppjodchlpapdaaDoor
namespace Rows

/-- THE TIED CARD OF 'interregnumlaw21.RowTexts'. -/
def rowTextsCard : Claim7 := { stood := { row := rowTextsRow, standIns := [], harness := (true, "5a4ee8a5e9a8129e569ebe5ff5d28bae685eac707dcee8756b7df01bd9f1272f"), looks := true }, kinds := [], alts := [], laidByText := true, laidKinds := [.data, .data, .data, .sentinel, .sentinel], laidTests := true, laidLooks := .later }
def RowTextsCardSaid : Prop := Claim7.holds Tryd.pinned (.plain (OpenSpec.ofChange rowTextsSpec)) rowTextsCard

/-- THE TIED CARD OF 'interregnumlaw21.RowHops'. -/
def rowHopsCard : Claim7 := { stood := { row := rowHopsRow, standIns := [], harness := (true, "5a4ee8a5e9a8129e569ebe5ff5d28bae685eac707dcee8756b7df01bd9f1272f"), looks := true }, kinds := [], alts := [], laidByText := true, laidKinds := [.data, .data, .data, .sentinel, .sentinel], laidTests := true, laidLooks := .later }
def RowHopsCardSaid : Prop := Claim7.holds Tryd.pinned (.plain (OpenSpec.ofChange rowHopsSpec)) rowHopsCard

/-- THE TIED CARD OF 'interregnumlaw21.RowUnlike'. -/
def rowUnlikeCard : Claim7 := { stood := { row := rowUnlikeRow, standIns := [], harness := (true, "5a4ee8a5e9a8129e569ebe5ff5d28bae685eac707dcee8756b7df01bd9f1272f"), looks := true }, kinds := [], alts := [], laidByText := true, laidKinds := [.data, .data, .data, .sentinel, .sentinel], laidTests := true, laidLooks := .later }
def RowUnlikeCardSaid : Prop := Claim7.holds Tryd.pinned (.plain (OpenSpec.ofChange rowUnlikeSpec)) rowUnlikeCard

/-- THE TIED CARD OF 'interregnumlaw21.RowPeers'. -/
def rowPeersCard : Claim7 := { stood := { row := rowPeersRow, standIns := [], harness := (true, "5a4ee8a5e9a8129e569ebe5ff5d28bae685eac707dcee8756b7df01bd9f1272f"), looks := true }, kinds := [], alts := [], laidByText := true, laidKinds := [.data, .data, .data, .sentinel, .sentinel], laidTests := true, laidLooks := .later }
def RowPeersCardSaid : Prop := Claim7.holds Tryd.pinned (.plain (OpenSpec.ofChange rowPeersSpec)) rowPeersCard

/-- THE SECOND FORM's CARD OF 'interregnumlaw21.RowTexts'. -/
def rowTextsUptoCard : Claim7 := { stood := { row := rowTextsUptoRow, standIns := [], harness := (true, "5a4ee8a5e9a8129e569ebe5ff5d28bae685eac707dcee8756b7df01bd9f1272f"), looks := true }, kinds := [], alts := [], laidByText := true, laidKinds := [.data, .data, .data, .sentinel, .sentinel], laidTests := true, laidLooks := .later }
def RowTextsUptoCardSaid : Prop := Claim7.holds Tryd.pinned (.plain (OpenSpec.upto rowTextsSpec)) rowTextsUptoCard

/-- THE SECOND FORM's CARD OF 'interregnumlaw21.RowHops'. -/
def rowHopsUptoCard : Claim7 := { stood := { row := rowHopsUptoRow, standIns := [], harness := (true, "5a4ee8a5e9a8129e569ebe5ff5d28bae685eac707dcee8756b7df01bd9f1272f"), looks := true }, kinds := [], alts := [], laidByText := true, laidKinds := [.data, .data, .data, .sentinel, .sentinel], laidTests := true, laidLooks := .later }
def RowHopsUptoCardSaid : Prop := Claim7.holds Tryd.pinned (.plain (OpenSpec.upto rowHopsSpec)) rowHopsUptoCard

/-- THE SECOND FORM's CARD OF 'interregnumlaw21.RowUnlike'. -/
def rowUnlikeUptoCard : Claim7 := { stood := { row := rowUnlikeUptoRow, standIns := [], harness := (true, "5a4ee8a5e9a8129e569ebe5ff5d28bae685eac707dcee8756b7df01bd9f1272f"), looks := true }, kinds := [], alts := [], laidByText := true, laidKinds := [.data, .data, .data, .sentinel, .sentinel], laidTests := true, laidLooks := .later }
def RowUnlikeUptoCardSaid : Prop := Claim7.holds Tryd.pinned (.plain (OpenSpec.upto rowUnlikeSpec)) rowUnlikeUptoCard

/-- THE SECOND FORM's CARD OF 'interregnumlaw21.RowPeers'. -/
def rowPeersUptoCard : Claim7 := { stood := { row := rowPeersUptoRow, standIns := [], harness := (true, "5a4ee8a5e9a8129e569ebe5ff5d28bae685eac707dcee8756b7df01bd9f1272f"), looks := true }, kinds := [], alts := [], laidByText := true, laidKinds := [.data, .data, .data, .sentinel, .sentinel], laidTests := true, laidLooks := .later }
def RowPeersUptoCardSaid : Prop := Claim7.holds Tryd.pinned (.plain (OpenSpec.upto rowPeersSpec)) rowPeersUptoCard
end Rows
end Go.Proofs.YtppjodchlpapdaaDoor
