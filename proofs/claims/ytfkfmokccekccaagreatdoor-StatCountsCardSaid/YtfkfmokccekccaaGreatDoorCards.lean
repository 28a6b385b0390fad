/-
  DERIVED. GIVEN WITH THE SEED: THE CARDS: each row of YtfkfmokccekccaaGreatDoorRows.lean that lists a variable, with what it lists TIED to the program's text (the seventh form; the later family's looks); each row that meets fmt, with fmt's text TOLD by the authors' own Lean function (tested against real Go, not proved from fmt's source: count such statements apart). THE CARD IS WHAT COUNTS. Prove the row's statement (the work); the ties are given (YtfkfmokccekccaaGreatDoorTie.lean); close each card by the builder's one call (the guide's Derived/Test/ToyasCard.lean, 'card_holds'). Laid BY PROGRAM, IN A SANDBOX (cutbox-door.mjs). By AI agents, Wed Nov 11 2026. No macro, syntax, notation, axiom, sorry.
-/
import Derived.Test.YtfkfmokccekccaaGreatDoorRows
import GoSem.ClaimSeven
namespace Go.Proofs.YtfkfmokccekccaaGreatDoor
namespace Rows

/-- THE TIED CARD OF 'mergelenslaw22.SimilarRenames'. -/
def similarRenamesCard : Claim7 := { stood := { row := similarRenamesRow, standIns := [], harness := (true, "3cd95f106b2559200bc47660a361c06c57d4dda6b11209d93a3222477e1926d6"), looks := false }, kinds := [], alts := [], laidByText := true, laidKinds := [.data, .pinned], laidTests := true, laidLooks := .later }
def SimilarRenamesCardSaid : Prop := Claim7.holds Tryz.pinned (.plain (OpenSpec.ofChange similarRenamesSpec)) similarRenamesCard

/-- THE TIED CARD OF 'mergelenslaw26.ChangesLists'. -/
def changesListsCard : Claim7 := { stood := { row := changesListsRow, standIns := [], harness := (true, "3cd95f106b2559200bc47660a361c06c57d4dda6b11209d93a3222477e1926d6"), looks := false }, kinds := [], alts := [], laidByText := true, laidKinds := [.data, .pinned], laidTests := true, laidLooks := .later }
def ChangesListsCardSaid : Prop := Claim7.holds Tryz.pinned (.plain (OpenSpec.ofChange changesListsSpec)) changesListsCard

/-- THE TIED CARD OF 'mergelenslaw27.StatCounts'. -/
def statCountsCard : Claim7 := { stood := { row := statCountsRow, standIns := [], harness := (true, "3cd95f106b2559200bc47660a361c06c57d4dda6b11209d93a3222477e1926d6"), looks := false }, kinds := [], alts := [], laidByText := true, laidKinds := [.data, .data, .data, .data, .pinned], laidTests := true, laidLooks := .later }
def StatCountsCardSaid : Prop := Claim7.holds Tryz.pinned (.plain (OpenSpec.ofChange statCountsSpec)) statCountsCard

/-- THE SECOND FORM's CARD OF 'mergelenslaw22.SimilarRenames'. -/
def similarRenamesUptoCard : Claim7 := { stood := { row := similarRenamesUptoRow, standIns := [], harness := (true, "3cd95f106b2559200bc47660a361c06c57d4dda6b11209d93a3222477e1926d6"), looks := false }, kinds := [], alts := [], laidByText := true, laidKinds := [.data, .pinned], laidTests := true, laidLooks := .later }
def SimilarRenamesUptoCardSaid : Prop := Claim7.holds Tryz.pinned (.plain (OpenSpec.upto similarRenamesSpec)) similarRenamesUptoCard

/-- THE SECOND FORM's CARD OF 'mergelenslaw26.ChangesLists'. -/
def changesListsUptoCard : Claim7 := { stood := { row := changesListsUptoRow, standIns := [], harness := (true, "3cd95f106b2559200bc47660a361c06c57d4dda6b11209d93a3222477e1926d6"), looks := false }, kinds := [], alts := [], laidByText := true, laidKinds := [.data, .pinned], laidTests := true, laidLooks := .later }
def ChangesListsUptoCardSaid : Prop := Claim7.holds Tryz.pinned (.plain (OpenSpec.upto changesListsSpec)) changesListsUptoCard

/-- THE SECOND FORM's CARD OF 'mergelenslaw27.StatCounts'. -/
def statCountsUptoCard : Claim7 := { stood := { row := statCountsUptoRow, standIns := [], harness := (true, "3cd95f106b2559200bc47660a361c06c57d4dda6b11209d93a3222477e1926d6"), looks := false }, kinds := [], alts := [], laidByText := true, laidKinds := [.data, .data, .data, .data, .pinned], laidTests := true, laidLooks := .later }
def StatCountsUptoCardSaid : Prop := Claim7.holds Tryz.pinned (.plain (OpenSpec.upto statCountsSpec)) statCountsUptoCard
end Rows
end Go.Proofs.YtfkfmokccekccaaGreatDoor
