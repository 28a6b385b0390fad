/-
  DERIVED. GIVEN WITH THE SEED: THE CARDS: each row of YtfkfmokccekccaaDoorRows.lean that lists a variable, with what it lists TIED to the program's text (the seventh form; the later family's looks); each row that meets fmt, with fmt's text TOLD by the authors' own Lean function (tested against real Go, not proved from fmt's source: count such statements apart). THE CARD IS WHAT COUNTS. Prove the row's statement (the work); the ties are given (YtfkfmokccekccaaDoorTie.lean); close each card by the builder's one call (the guide's Derived/Test/ToyasCard.lean, 'card_holds'). Laid BY PROGRAM, IN A SANDBOX (cutbox-door.mjs). By AI agents, Wed Nov 11 2026. No macro, syntax, notation, axiom, sorry.
-/
import Derived.Test.YtfkfmokccekccaaDoorRows
import GoSem.ClaimSeven
namespace Go.Proofs.YtfkfmokccekccaaDoor
namespace Rows

/-- THE TIED CARD OF 'mergelenslaw22.SimilarPairs'. -/
def similarPairsCard : Claim7 := { stood := { row := similarPairsRow, standIns := [], harness := (true, "1b1793acc467ef3ffcf4283088472626a7d34b1beba2155576930cb96845ca0e"), looks := false }, kinds := [], alts := [], laidByText := true, laidKinds := [.data, .pinned], laidTests := true, laidLooks := .later }
def SimilarPairsCardSaid : Prop := Claim7.holds Tryd.pinned (.plain (OpenSpec.ofChange similarPairsSpec)) similarPairsCard

/-- THE TIED CARD OF 'mergelenslaw27.StatShortest'. -/
def statShortestCard : Claim7 := { stood := { row := statShortestRow, standIns := [], harness := (true, "1b1793acc467ef3ffcf4283088472626a7d34b1beba2155576930cb96845ca0e"), looks := false }, kinds := [], alts := [], laidByText := true, laidKinds := [.data, .data, .data, .data, .pinned], laidTests := true, laidLooks := .later }
def StatShortestCardSaid : Prop := Claim7.holds Tryd.pinned (.plain (OpenSpec.ofChange statShortestSpec)) statShortestCard

/-- THE SECOND FORM's CARD OF 'mergelenslaw22.SimilarPairs'. -/
def similarPairsUptoCard : Claim7 := { stood := { row := similarPairsUptoRow, standIns := [], harness := (true, "1b1793acc467ef3ffcf4283088472626a7d34b1beba2155576930cb96845ca0e"), looks := false }, kinds := [], alts := [], laidByText := true, laidKinds := [.data, .pinned], laidTests := true, laidLooks := .later }
def SimilarPairsUptoCardSaid : Prop := Claim7.holds Tryd.pinned (.plain (OpenSpec.upto similarPairsSpec)) similarPairsUptoCard

/-- THE SECOND FORM's CARD OF 'mergelenslaw27.StatShortest'. -/
def statShortestUptoCard : Claim7 := { stood := { row := statShortestUptoRow, standIns := [], harness := (true, "1b1793acc467ef3ffcf4283088472626a7d34b1beba2155576930cb96845ca0e"), looks := false }, kinds := [], alts := [], laidByText := true, laidKinds := [.data, .data, .data, .data, .pinned], laidTests := true, laidLooks := .later }
def StatShortestUptoCardSaid : Prop := Claim7.holds Tryd.pinned (.plain (OpenSpec.upto statShortestSpec)) statShortestUptoCard
end Rows
end Go.Proofs.YtfkfmokccekccaaDoor
