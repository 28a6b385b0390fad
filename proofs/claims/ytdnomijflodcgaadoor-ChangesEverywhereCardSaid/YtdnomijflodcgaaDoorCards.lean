/-
  DERIVED. GIVEN WITH THE SEED: THE CARDS: each row of YtdnomijflodcgaaDoorRows.lean that lists a variable, with what it lists TIED to the program's text (the seventh form; the later family's looks); each row that meets fmt, with fmt's text TOLD by the authors' own Lean function (tested against real Go, not proved from fmt's source: count such statements apart). THE CARD IS WHAT COUNTS. Prove the row's statement (the work); the ties are given (YtdnomijflodcgaaDoorTie.lean); close each card by the builder's one call (the guide's Derived/Test/ToyasCard.lean, 'card_holds'). Laid BY PROGRAM, IN A SANDBOX (cutbox-door.mjs). By AI agents, Wed Nov 11 2026. No macro, syntax, notation, axiom, sorry.
-/
import Derived.Test.YtdnomijflodcgaaDoorRows
import GoSem.ClaimSeven
namespace Go.Proofs.YtdnomijflodcgaaDoor
namespace Rows

/-- THE TIED CARD OF 'mergelenslaw26.ChangesPair'. -/
def changesPairCard : Claim7 := { stood := { row := changesPairRow, standIns := [], harness := (true, "85fa2c3e3470a6391641d8911f1fc55f8c93480ac61ad99a4253402e6e492482"), looks := false }, kinds := [], alts := [], laidByText := true, laidKinds := [.data, .pinned], laidTests := true, laidLooks := .later }
def ChangesPairCardSaid : Prop := Claim7.holds Tryd.pinned (.plain (OpenSpec.ofChange changesPairSpec)) changesPairCard

/-- THE TIED CARD OF 'mergelenslaw26.ChangesRefuses'. -/
def changesRefusesCard : Claim7 := { stood := { row := changesRefusesRow, standIns := [], harness := (true, "85fa2c3e3470a6391641d8911f1fc55f8c93480ac61ad99a4253402e6e492482"), looks := false }, kinds := [], alts := [], laidByText := true, laidKinds := [.data, .pinned], laidTests := true, laidLooks := .later }
def ChangesRefusesCardSaid : Prop := Claim7.holds Tryd.pinned (.plain (OpenSpec.ofChange changesRefusesSpec)) changesRefusesCard

/-- THE TIED CARD OF 'mergelenslaw26.ChangesEverywhere'. -/
def changesEverywhereCard : Claim7 := { stood := { row := changesEverywhereRow, standIns := [], harness := (true, "85fa2c3e3470a6391641d8911f1fc55f8c93480ac61ad99a4253402e6e492482"), looks := false }, kinds := [], alts := [], laidByText := true, laidKinds := [.data, .pinned], laidTests := true, laidLooks := .later }
def ChangesEverywhereCardSaid : Prop := Claim7.holds Tryd.pinned (.plain (OpenSpec.ofChange changesEverywhereSpec)) changesEverywhereCard

/-- THE TIED CARD OF 'mergelenslaw25.AncestryBases'. -/
def ancestryBasesCard : Claim7 := { stood := { row := ancestryBasesRow, standIns := [], harness := (true, "85fa2c3e3470a6391641d8911f1fc55f8c93480ac61ad99a4253402e6e492482"), looks := false }, kinds := [], alts := [], laidByText := true, laidKinds := [.data, .pinned], laidTests := true, laidLooks := .later }
def AncestryBasesCardSaid : Prop := Claim7.holds Tryd.pinned (.plain (OpenSpec.ofChange ancestryBasesSpec)) ancestryBasesCard

/-- THE TIED CARD OF 'mergelenslaw25.AncestryIndependent'. -/
def ancestryIndependentCard : Claim7 := { stood := { row := ancestryIndependentRow, standIns := [], harness := (true, "85fa2c3e3470a6391641d8911f1fc55f8c93480ac61ad99a4253402e6e492482"), looks := false }, kinds := [], alts := [], laidByText := true, laidKinds := [.data, .pinned], laidTests := true, laidLooks := .later }
def AncestryIndependentCardSaid : Prop := Claim7.holds Tryd.pinned (.plain (OpenSpec.ofChange ancestryIndependentSpec)) ancestryIndependentCard

/-- THE TIED CARD OF 'mergelenslaw25.AncestryRefuses'. -/
def ancestryRefusesCard : Claim7 := { stood := { row := ancestryRefusesRow, standIns := [], harness := (true, "85fa2c3e3470a6391641d8911f1fc55f8c93480ac61ad99a4253402e6e492482"), looks := false }, kinds := [], alts := [], laidByText := true, laidKinds := [.data, .pinned], laidTests := true, laidLooks := .later }
def AncestryRefusesCardSaid : Prop := Claim7.holds Tryd.pinned (.plain (OpenSpec.ofChange ancestryRefusesSpec)) ancestryRefusesCard

/-- THE TIED CARD OF 'mergelenslaw25.AncestryOrder'. -/
def ancestryOrderCard : Claim7 := { stood := { row := ancestryOrderRow, standIns := [], harness := (true, "85fa2c3e3470a6391641d8911f1fc55f8c93480ac61ad99a4253402e6e492482"), looks := false }, kinds := [], alts := [], laidByText := true, laidKinds := [.data, .pinned], laidTests := true, laidLooks := .later }
def AncestryOrderCardSaid : Prop := Claim7.holds Tryd.pinned (.plain (OpenSpec.ofChange ancestryOrderSpec)) ancestryOrderCard

/-- THE TIED CARD OF 'mergelenslaw27.StatShortest'. -/
def statShortestCard : Claim7 := { stood := { row := statShortestRow, standIns := [], harness := (true, "85fa2c3e3470a6391641d8911f1fc55f8c93480ac61ad99a4253402e6e492482"), looks := false }, kinds := [], alts := [], laidByText := true, laidKinds := [.data, .data, .data, .data, .pinned], laidTests := true, laidLooks := .later }
def StatShortestCardSaid : Prop := Claim7.holds Tryd.pinned (.plain (OpenSpec.ofChange statShortestSpec)) statShortestCard

/-- THE SECOND FORM's CARD OF 'mergelenslaw26.ChangesPair'. -/
def changesPairUptoCard : Claim7 := { stood := { row := changesPairUptoRow, standIns := [], harness := (true, "85fa2c3e3470a6391641d8911f1fc55f8c93480ac61ad99a4253402e6e492482"), looks := false }, kinds := [], alts := [], laidByText := true, laidKinds := [.data, .pinned], laidTests := true, laidLooks := .later }
def ChangesPairUptoCardSaid : Prop := Claim7.holds Tryd.pinned (.plain (OpenSpec.upto changesPairSpec)) changesPairUptoCard

/-- THE SECOND FORM's CARD OF 'mergelenslaw26.ChangesRefuses'. -/
def changesRefusesUptoCard : Claim7 := { stood := { row := changesRefusesUptoRow, standIns := [], harness := (true, "85fa2c3e3470a6391641d8911f1fc55f8c93480ac61ad99a4253402e6e492482"), looks := false }, kinds := [], alts := [], laidByText := true, laidKinds := [.data, .pinned], laidTests := true, laidLooks := .later }
def ChangesRefusesUptoCardSaid : Prop := Claim7.holds Tryd.pinned (.plain (OpenSpec.upto changesRefusesSpec)) changesRefusesUptoCard

/-- THE SECOND FORM's CARD OF 'mergelenslaw26.ChangesEverywhere'. -/
def changesEverywhereUptoCard : Claim7 := { stood := { row := changesEverywhereUptoRow, standIns := [], harness := (true, "85fa2c3e3470a6391641d8911f1fc55f8c93480ac61ad99a4253402e6e492482"), looks := false }, kinds := [], alts := [], laidByText := true, laidKinds := [.data, .pinned], laidTests := true, laidLooks := .later }
def ChangesEverywhereUptoCardSaid : Prop := Claim7.holds Tryd.pinned (.plain (OpenSpec.upto changesEverywhereSpec)) changesEverywhereUptoCard

/-- THE SECOND FORM's CARD OF 'mergelenslaw25.AncestryBases'. -/
def ancestryBasesUptoCard : Claim7 := { stood := { row := ancestryBasesUptoRow, standIns := [], harness := (true, "85fa2c3e3470a6391641d8911f1fc55f8c93480ac61ad99a4253402e6e492482"), looks := false }, kinds := [], alts := [], laidByText := true, laidKinds := [.data, .pinned], laidTests := true, laidLooks := .later }
def AncestryBasesUptoCardSaid : Prop := Claim7.holds Tryd.pinned (.plain (OpenSpec.upto ancestryBasesSpec)) ancestryBasesUptoCard

/-- THE SECOND FORM's CARD OF 'mergelenslaw25.AncestryIndependent'. -/
def ancestryIndependentUptoCard : Claim7 := { stood := { row := ancestryIndependentUptoRow, standIns := [], harness := (true, "85fa2c3e3470a6391641d8911f1fc55f8c93480ac61ad99a4253402e6e492482"), looks := false }, kinds := [], alts := [], laidByText := true, laidKinds := [.data, .pinned], laidTests := true, laidLooks := .later }
def AncestryIndependentUptoCardSaid : Prop := Claim7.holds Tryd.pinned (.plain (OpenSpec.upto ancestryIndependentSpec)) ancestryIndependentUptoCard

/-- THE SECOND FORM's CARD OF 'mergelenslaw25.AncestryRefuses'. -/
def ancestryRefusesUptoCard : Claim7 := { stood := { row := ancestryRefusesUptoRow, standIns := [], harness := (true, "85fa2c3e3470a6391641d8911f1fc55f8c93480ac61ad99a4253402e6e492482"), looks := false }, kinds := [], alts := [], laidByText := true, laidKinds := [.data, .pinned], laidTests := true, laidLooks := .later }
def AncestryRefusesUptoCardSaid : Prop := Claim7.holds Tryd.pinned (.plain (OpenSpec.upto ancestryRefusesSpec)) ancestryRefusesUptoCard

/-- THE SECOND FORM's CARD OF 'mergelenslaw25.AncestryOrder'. -/
def ancestryOrderUptoCard : Claim7 := { stood := { row := ancestryOrderUptoRow, standIns := [], harness := (true, "85fa2c3e3470a6391641d8911f1fc55f8c93480ac61ad99a4253402e6e492482"), looks := false }, kinds := [], alts := [], laidByText := true, laidKinds := [.data, .pinned], laidTests := true, laidLooks := .later }
def AncestryOrderUptoCardSaid : Prop := Claim7.holds Tryd.pinned (.plain (OpenSpec.upto ancestryOrderSpec)) ancestryOrderUptoCard

/-- THE SECOND FORM's CARD OF 'mergelenslaw27.StatShortest'. -/
def statShortestUptoCard : Claim7 := { stood := { row := statShortestUptoRow, standIns := [], harness := (true, "85fa2c3e3470a6391641d8911f1fc55f8c93480ac61ad99a4253402e6e492482"), looks := false }, kinds := [], alts := [], laidByText := true, laidKinds := [.data, .data, .data, .data, .pinned], laidTests := true, laidLooks := .later }
def StatShortestUptoCardSaid : Prop := Claim7.holds Tryd.pinned (.plain (OpenSpec.upto statShortestSpec)) statShortestUptoCard
end Rows
end Go.Proofs.YtdnomijflodcgaaDoor
