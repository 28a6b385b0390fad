/-
  DERIVED. GIVEN WITH THE SEED: THE CARDS: each row of YtbandpkgjepklaaDoorRows.lean that lists a variable, with what it lists TIED to the program's text (the seventh form; the later family's looks); each row that meets fmt, with fmt's text TOLD by the authors' own Lean function (tested against real Go, not proved from fmt's source: count such statements apart). THE CARD IS WHAT COUNTS. Prove the row's statement (the work); the ties are given (YtbandpkgjepklaaDoorTie.lean); close each card by the builder's one call (the guide's Derived/Test/ToyasCard.lean, 'card_holds'). Laid BY PROGRAM, IN A SANDBOX (cutbox-door.mjs). By AI agents, Wed Nov 11 2026. No macro, syntax, notation, axiom, sorry.
-/
import Derived.Test.YtbandpkgjepklaaDoorRows
import GoSem.ClaimSeven
namespace Go.Proofs.YtbandpkgjepklaaDoor
namespace Rows

/-- THE TIED CARD OF 'mergelenslaw01.ScanNumbers'. -/
def scanNumbersCard : Claim7 := { stood := { row := scanNumbersRow, standIns := [], harness := (true, "cca72f4e30e29b9188d1c67edfc41fa77134dabbaa60ef044577a9a3b2315ab0"), looks := false }, kinds := [], alts := [], laidByText := true, laidKinds := [.data, .data, .data], laidTests := true, laidLooks := .later }
def ScanNumbersCardSaid : Prop := Claim7.holds Tryd.pinned (.plain (OpenSpec.ofChange scanNumbersSpec)) scanNumbersCard

/-- THE TIED CARD OF 'mergelenslaw01.ScanReads'. -/
def scanReadsCard : Claim7 := { stood := { row := scanReadsRow, standIns := [], harness := (true, "cca72f4e30e29b9188d1c67edfc41fa77134dabbaa60ef044577a9a3b2315ab0"), looks := false }, kinds := [], alts := [], laidByText := true, laidKinds := [.data, .data, .data], laidTests := true, laidLooks := .later }
def ScanReadsCardSaid : Prop := Claim7.holds Tryd.pinned (.plain (OpenSpec.ofChange scanReadsSpec)) scanReadsCard

/-- THE TIED CARD OF 'mergelenslaw01.ScanQuotes'. -/
def scanQuotesCard : Claim7 := { stood := { row := scanQuotesRow, standIns := [], harness := (true, "cca72f4e30e29b9188d1c67edfc41fa77134dabbaa60ef044577a9a3b2315ab0"), looks := false }, kinds := [], alts := [], laidByText := true, laidKinds := [.data, .data, .data], laidTests := true, laidLooks := .later }
def ScanQuotesCardSaid : Prop := Claim7.holds Tryd.pinned (.plain (OpenSpec.ofChange scanQuotesSpec)) scanQuotesCard

/-- THE TIED CARD OF 'mergelenslaw01.ScanQuoteReads'. -/
def scanQuoteReadsCard : Claim7 := { stood := { row := scanQuoteReadsRow, standIns := [], harness := (true, "cca72f4e30e29b9188d1c67edfc41fa77134dabbaa60ef044577a9a3b2315ab0"), looks := false }, kinds := [], alts := [], laidByText := true, laidKinds := [.data, .data, .data], laidTests := true, laidLooks := .later }
def ScanQuoteReadsCardSaid : Prop := Claim7.holds Tryd.pinned (.plain (OpenSpec.ofChange scanQuoteReadsSpec)) scanQuoteReadsCard

/-- THE TIED CARD OF 'mergelenslaw01.ScanRanges'. -/
def scanRangesCard : Claim7 := { stood := { row := scanRangesRow, standIns := [], harness := (true, "cca72f4e30e29b9188d1c67edfc41fa77134dabbaa60ef044577a9a3b2315ab0"), looks := false }, kinds := [], alts := [], laidByText := true, laidKinds := [.data, .data, .data], laidTests := true, laidLooks := .later }
def ScanRangesCardSaid : Prop := Claim7.holds Tryd.pinned (.plain (OpenSpec.ofChange scanRangesSpec)) scanRangesCard

/-- THE TIED CARD OF 'mergelenslaw01.ScanRangeReads'. -/
def scanRangeReadsCard : Claim7 := { stood := { row := scanRangeReadsRow, standIns := [], harness := (true, "cca72f4e30e29b9188d1c67edfc41fa77134dabbaa60ef044577a9a3b2315ab0"), looks := false }, kinds := [], alts := [], laidByText := true, laidKinds := [.data, .data, .data], laidTests := true, laidLooks := .later }
def ScanRangeReadsCardSaid : Prop := Claim7.holds Tryd.pinned (.plain (OpenSpec.ofChange scanRangeReadsSpec)) scanRangeReadsCard

/-- THE TIED CARD OF 'mergelenslaw01.ScanWords'. -/
def scanWordsCard : Claim7 := { stood := { row := scanWordsRow, standIns := [], harness := (true, "cca72f4e30e29b9188d1c67edfc41fa77134dabbaa60ef044577a9a3b2315ab0"), looks := false }, kinds := [], alts := [], laidByText := true, laidKinds := [.data, .data, .data], laidTests := true, laidLooks := .later }
def ScanWordsCardSaid : Prop := Claim7.holds Tryd.pinned (.plain (OpenSpec.ofChange scanWordsSpec)) scanWordsCard

/-- THE SECOND FORM's CARD OF 'mergelenslaw01.ScanNumbers'. -/
def scanNumbersUptoCard : Claim7 := { stood := { row := scanNumbersUptoRow, standIns := [], harness := (true, "cca72f4e30e29b9188d1c67edfc41fa77134dabbaa60ef044577a9a3b2315ab0"), looks := false }, kinds := [], alts := [], laidByText := true, laidKinds := [.data, .data, .data], laidTests := true, laidLooks := .later }
def ScanNumbersUptoCardSaid : Prop := Claim7.holds Tryd.pinned (.plain (OpenSpec.upto scanNumbersSpec)) scanNumbersUptoCard

/-- THE SECOND FORM's CARD OF 'mergelenslaw01.ScanReads'. -/
def scanReadsUptoCard : Claim7 := { stood := { row := scanReadsUptoRow, standIns := [], harness := (true, "cca72f4e30e29b9188d1c67edfc41fa77134dabbaa60ef044577a9a3b2315ab0"), looks := false }, kinds := [], alts := [], laidByText := true, laidKinds := [.data, .data, .data], laidTests := true, laidLooks := .later }
def ScanReadsUptoCardSaid : Prop := Claim7.holds Tryd.pinned (.plain (OpenSpec.upto scanReadsSpec)) scanReadsUptoCard

/-- THE SECOND FORM's CARD OF 'mergelenslaw01.ScanQuotes'. -/
def scanQuotesUptoCard : Claim7 := { stood := { row := scanQuotesUptoRow, standIns := [], harness := (true, "cca72f4e30e29b9188d1c67edfc41fa77134dabbaa60ef044577a9a3b2315ab0"), looks := false }, kinds := [], alts := [], laidByText := true, laidKinds := [.data, .data, .data], laidTests := true, laidLooks := .later }
def ScanQuotesUptoCardSaid : Prop := Claim7.holds Tryd.pinned (.plain (OpenSpec.upto scanQuotesSpec)) scanQuotesUptoCard

/-- THE SECOND FORM's CARD OF 'mergelenslaw01.ScanQuoteReads'. -/
def scanQuoteReadsUptoCard : Claim7 := { stood := { row := scanQuoteReadsUptoRow, standIns := [], harness := (true, "cca72f4e30e29b9188d1c67edfc41fa77134dabbaa60ef044577a9a3b2315ab0"), looks := false }, kinds := [], alts := [], laidByText := true, laidKinds := [.data, .data, .data], laidTests := true, laidLooks := .later }
def ScanQuoteReadsUptoCardSaid : Prop := Claim7.holds Tryd.pinned (.plain (OpenSpec.upto scanQuoteReadsSpec)) scanQuoteReadsUptoCard

/-- THE SECOND FORM's CARD OF 'mergelenslaw01.ScanRanges'. -/
def scanRangesUptoCard : Claim7 := { stood := { row := scanRangesUptoRow, standIns := [], harness := (true, "cca72f4e30e29b9188d1c67edfc41fa77134dabbaa60ef044577a9a3b2315ab0"), looks := false }, kinds := [], alts := [], laidByText := true, laidKinds := [.data, .data, .data], laidTests := true, laidLooks := .later }
def ScanRangesUptoCardSaid : Prop := Claim7.holds Tryd.pinned (.plain (OpenSpec.upto scanRangesSpec)) scanRangesUptoCard

/-- THE SECOND FORM's CARD OF 'mergelenslaw01.ScanRangeReads'. -/
def scanRangeReadsUptoCard : Claim7 := { stood := { row := scanRangeReadsUptoRow, standIns := [], harness := (true, "cca72f4e30e29b9188d1c67edfc41fa77134dabbaa60ef044577a9a3b2315ab0"), looks := false }, kinds := [], alts := [], laidByText := true, laidKinds := [.data, .data, .data], laidTests := true, laidLooks := .later }
def ScanRangeReadsUptoCardSaid : Prop := Claim7.holds Tryd.pinned (.plain (OpenSpec.upto scanRangeReadsSpec)) scanRangeReadsUptoCard

/-- THE SECOND FORM's CARD OF 'mergelenslaw01.ScanWords'. -/
def scanWordsUptoCard : Claim7 := { stood := { row := scanWordsUptoRow, standIns := [], harness := (true, "cca72f4e30e29b9188d1c67edfc41fa77134dabbaa60ef044577a9a3b2315ab0"), looks := false }, kinds := [], alts := [], laidByText := true, laidKinds := [.data, .data, .data], laidTests := true, laidLooks := .later }
def ScanWordsUptoCardSaid : Prop := Claim7.holds Tryd.pinned (.plain (OpenSpec.upto scanWordsSpec)) scanWordsUptoCard
end Rows
end Go.Proofs.YtbandpkgjepklaaDoor
