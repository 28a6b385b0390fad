/-
  DERIVED. GIVEN WITH THE SEED: THE CARDS: each row of YtopngokkgogolaaGreatDoorRows.lean that lists a variable, with what it lists TIED to the program's text (the seventh form; the later family's looks); each row that meets fmt, with fmt's text TOLD by the authors' own Lean function (tested against real Go, not proved from fmt's source: count such statements apart). THE CARD IS WHAT COUNTS. Prove the row's statement (the work); the ties are given (YtopngokkgogolaaGreatDoorTie.lean); close each card by the builder's one call (the guide's Derived/Test/ToyasCard.lean, 'card_holds'). Laid BY PROGRAM, IN A SANDBOX (cutbox-door.mjs). By AI agents, Wed Nov 11 2026. No macro, syntax, notation, axiom, sorry.
-/
import Derived.Test.YtopngokkgogolaaGreatDoorRows
import GoSem.ClaimSeven
namespace Go.Proofs.YtopngokkgogolaaGreatDoor
namespace Rows

/-- THE TIED CARD OF 'mergelenstop.TopHunks'. -/
def topHunksCard : Claim7 := { stood := { row := topHunksRow, standIns := [], harness := (true, "7f79b5850d4d1d49fcab43ba146ab5f98c5188ad4dc94c78b0fe1219c75687ac"), looks := true }, kinds := [], alts := [], laidByText := true, laidKinds := [.data, .data, .data, .data, .pinned], laidTests := true, laidLooks := .later }
def TopHunksCardSaid : Prop := Claim7.holds Tryz.pinned (.plain (OpenSpec.ofChange topHunksSpec)) topHunksCard

/-- THE TIED CARD OF 'mergelenstop.TopGrep'. -/
def topGrepCard : Claim7 := { stood := { row := topGrepRow, standIns := [], harness := (true, "7f79b5850d4d1d49fcab43ba146ab5f98c5188ad4dc94c78b0fe1219c75687ac"), looks := true }, kinds := [], alts := [], laidByText := true, laidKinds := [.data, .pinned], laidTests := true, laidLooks := .later }
def TopGrepCardSaid : Prop := Claim7.holds Tryz.pinned (.plain (OpenSpec.ofChange topGrepSpec)) topGrepCard

/-- THE TIED CARD OF 'mergelenstop.TopCounts'. -/
def topCountsCard : Claim7 := { stood := { row := topCountsRow, standIns := [], harness := (true, "7f79b5850d4d1d49fcab43ba146ab5f98c5188ad4dc94c78b0fe1219c75687ac"), looks := true }, kinds := [], alts := [], laidByText := true, laidKinds := [.data, .pinned], laidTests := true, laidLooks := .later }
def TopCountsCardSaid : Prop := Claim7.holds Tryz.pinned (.plain (OpenSpec.ofChange topCountsSpec)) topCountsCard

/-- THE TIED CARD OF 'mergelenstop.TopStats'. -/
def topStatsCard : Claim7 := { stood := { row := topStatsRow, standIns := [], harness := (true, "7f79b5850d4d1d49fcab43ba146ab5f98c5188ad4dc94c78b0fe1219c75687ac"), looks := true }, kinds := [], alts := [], laidByText := true, laidKinds := [.data, .data, .data, .data, .pinned], laidTests := true, laidLooks := .later }
def TopStatsCardSaid : Prop := Claim7.holds Tryz.pinned (.plain (OpenSpec.ofChange topStatsSpec)) topStatsCard

/-- THE SECOND FORM's CARD OF 'mergelenstop.TopHunks'. -/
def topHunksUptoCard : Claim7 := { stood := { row := topHunksUptoRow, standIns := [], harness := (true, "7f79b5850d4d1d49fcab43ba146ab5f98c5188ad4dc94c78b0fe1219c75687ac"), looks := true }, kinds := [], alts := [], laidByText := true, laidKinds := [.data, .data, .data, .data, .pinned], laidTests := true, laidLooks := .later }
def TopHunksUptoCardSaid : Prop := Claim7.holds Tryz.pinned (.plain (OpenSpec.upto topHunksSpec)) topHunksUptoCard

/-- THE SECOND FORM's CARD OF 'mergelenstop.TopGrep'. -/
def topGrepUptoCard : Claim7 := { stood := { row := topGrepUptoRow, standIns := [], harness := (true, "7f79b5850d4d1d49fcab43ba146ab5f98c5188ad4dc94c78b0fe1219c75687ac"), looks := true }, kinds := [], alts := [], laidByText := true, laidKinds := [.data, .pinned], laidTests := true, laidLooks := .later }
def TopGrepUptoCardSaid : Prop := Claim7.holds Tryz.pinned (.plain (OpenSpec.upto topGrepSpec)) topGrepUptoCard

/-- THE SECOND FORM's CARD OF 'mergelenstop.TopCounts'. -/
def topCountsUptoCard : Claim7 := { stood := { row := topCountsUptoRow, standIns := [], harness := (true, "7f79b5850d4d1d49fcab43ba146ab5f98c5188ad4dc94c78b0fe1219c75687ac"), looks := true }, kinds := [], alts := [], laidByText := true, laidKinds := [.data, .pinned], laidTests := true, laidLooks := .later }
def TopCountsUptoCardSaid : Prop := Claim7.holds Tryz.pinned (.plain (OpenSpec.upto topCountsSpec)) topCountsUptoCard

/-- THE SECOND FORM's CARD OF 'mergelenstop.TopStats'. -/
def topStatsUptoCard : Claim7 := { stood := { row := topStatsUptoRow, standIns := [], harness := (true, "7f79b5850d4d1d49fcab43ba146ab5f98c5188ad4dc94c78b0fe1219c75687ac"), looks := true }, kinds := [], alts := [], laidByText := true, laidKinds := [.data, .data, .data, .data, .pinned], laidTests := true, laidLooks := .later }
def TopStatsUptoCardSaid : Prop := Claim7.holds Tryz.pinned (.plain (OpenSpec.upto topStatsSpec)) topStatsUptoCard
end Rows
end Go.Proofs.YtopngokkgogolaaGreatDoor
