/-
  DERIVED. GIVEN WITH THE SEED: THE CARDS: each row of YtdnomijflodcgaaGreatDoorRows.lean that lists a variable, with what it lists TIED to the program's text (the seventh form; the later family's looks); each row that meets fmt, with fmt's text TOLD by the authors' own Lean function (tested against real Go, not proved from fmt's source: count such statements apart). THE CARD IS WHAT COUNTS. Prove the row's statement (the work); the ties are given (YtdnomijflodcgaaGreatDoorTie.lean); close each card by the builder's one call (the guide's Derived/Test/ToyasCard.lean, 'card_holds'). Laid BY PROGRAM, IN A SANDBOX (cutbox-door.mjs). By AI agents, Wed Nov 11 2026. No macro, syntax, notation, axiom, sorry.
-/
import Derived.Test.YtdnomijflodcgaaGreatDoorRows
import GoSem.ClaimSeven
namespace Go.Proofs.YtdnomijflodcgaaGreatDoor
namespace Rows

/-- THE TIED CARD OF 'mergelenslaw26.ChangesLists'. -/
def changesListsCard : Claim7 := { stood := { row := changesListsRow, standIns := [], harness := (true, "f605911d475f77c90845b4ec015b220842721efc5a631c391656f9e0b9245a4a"), looks := false }, kinds := [], alts := [], laidByText := true, laidKinds := [.data, .pinned], laidTests := true, laidLooks := .later }
def ChangesListsCardSaid : Prop := Claim7.holds Tryz.pinned (.plain (OpenSpec.ofChange changesListsSpec)) changesListsCard

/-- THE TIED CARD OF 'mergelenslaw25.AncestryAnswers'. -/
def ancestryAnswersCard : Claim7 := { stood := { row := ancestryAnswersRow, standIns := [], harness := (true, "f605911d475f77c90845b4ec015b220842721efc5a631c391656f9e0b9245a4a"), looks := false }, kinds := [], alts := [], laidByText := true, laidKinds := [.data, .pinned], laidTests := true, laidLooks := .later }
def AncestryAnswersCardSaid : Prop := Claim7.holds Tryz.pinned (.plain (OpenSpec.ofChange ancestryAnswersSpec)) ancestryAnswersCard

/-- THE TIED CARD OF 'mergelenslaw26.ChangesLead'. -/
def changesLeadCard : Claim7 := { stood := { row := changesLeadRow, standIns := [], harness := (true, "f605911d475f77c90845b4ec015b220842721efc5a631c391656f9e0b9245a4a"), looks := false }, kinds := [], alts := [], laidByText := true, laidKinds := [.data, .pinned], laidTests := true, laidLooks := .later }
def ChangesLeadCardSaid : Prop := Claim7.holds Tryz.pinned (.plain (OpenSpec.ofChange changesLeadSpec)) changesLeadCard

/-- THE TIED CARD OF 'mergelenslaw27.StatCounts'. -/
def statCountsCard : Claim7 := { stood := { row := statCountsRow, standIns := [], harness := (true, "f605911d475f77c90845b4ec015b220842721efc5a631c391656f9e0b9245a4a"), looks := false }, kinds := [], alts := [], laidByText := true, laidKinds := [.data, .data, .data, .data, .pinned], laidTests := true, laidLooks := .later }
def StatCountsCardSaid : Prop := Claim7.holds Tryz.pinned (.plain (OpenSpec.ofChange statCountsSpec)) statCountsCard

/-- THE SECOND FORM's CARD OF 'mergelenslaw26.ChangesLists'. -/
def changesListsUptoCard : Claim7 := { stood := { row := changesListsUptoRow, standIns := [], harness := (true, "f605911d475f77c90845b4ec015b220842721efc5a631c391656f9e0b9245a4a"), looks := false }, kinds := [], alts := [], laidByText := true, laidKinds := [.data, .pinned], laidTests := true, laidLooks := .later }
def ChangesListsUptoCardSaid : Prop := Claim7.holds Tryz.pinned (.plain (OpenSpec.upto changesListsSpec)) changesListsUptoCard

/-- THE SECOND FORM's CARD OF 'mergelenslaw25.AncestryAnswers'. -/
def ancestryAnswersUptoCard : Claim7 := { stood := { row := ancestryAnswersUptoRow, standIns := [], harness := (true, "f605911d475f77c90845b4ec015b220842721efc5a631c391656f9e0b9245a4a"), looks := false }, kinds := [], alts := [], laidByText := true, laidKinds := [.data, .pinned], laidTests := true, laidLooks := .later }
def AncestryAnswersUptoCardSaid : Prop := Claim7.holds Tryz.pinned (.plain (OpenSpec.upto ancestryAnswersSpec)) ancestryAnswersUptoCard

/-- THE SECOND FORM's CARD OF 'mergelenslaw26.ChangesLead'. -/
def changesLeadUptoCard : Claim7 := { stood := { row := changesLeadUptoRow, standIns := [], harness := (true, "f605911d475f77c90845b4ec015b220842721efc5a631c391656f9e0b9245a4a"), looks := false }, kinds := [], alts := [], laidByText := true, laidKinds := [.data, .pinned], laidTests := true, laidLooks := .later }
def ChangesLeadUptoCardSaid : Prop := Claim7.holds Tryz.pinned (.plain (OpenSpec.upto changesLeadSpec)) changesLeadUptoCard

/-- THE SECOND FORM's CARD OF 'mergelenslaw27.StatCounts'. -/
def statCountsUptoCard : Claim7 := { stood := { row := statCountsUptoRow, standIns := [], harness := (true, "f605911d475f77c90845b4ec015b220842721efc5a631c391656f9e0b9245a4a"), looks := false }, kinds := [], alts := [], laidByText := true, laidKinds := [.data, .data, .data, .data, .pinned], laidTests := true, laidLooks := .later }
def StatCountsUptoCardSaid : Prop := Claim7.holds Tryz.pinned (.plain (OpenSpec.upto statCountsSpec)) statCountsUptoCard
end Rows
end Go.Proofs.YtdnomijflodcgaaGreatDoor
