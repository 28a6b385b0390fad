/-
  DERIVED. GIVEN WITH THE SEED: THE CARDS: each row of YtcaandgkdmidkaaDoorRows.lean that lists a variable, with what it lists TIED to the program's text (the seventh form; the later family's looks); each row that meets fmt, with fmt's text TOLD by the authors' own Lean function (tested against real Go, not proved from fmt's source: count such statements apart). THE CARD IS WHAT COUNTS. Prove the row's statement (the work); the ties are given (YtcaandgkdmidkaaDoorTie.lean); close each card by the builder's one call (the guide's Derived/Test/ToyasCard.lean, 'card_holds'). Laid BY PROGRAM, IN A SANDBOX (cutbox-door.mjs). By AI agents, Wed Nov 11 2026. No macro, syntax, notation, axiom, sorry.
-/
import Derived.Test.YtcaandgkdmidkaaDoorRows
import GoSem.ClaimSeven
namespace Go.Proofs.YtcaandgkdmidkaaDoor
namespace Rows

/-- THE TIED CARD OF 'mergelenslaw27.StatBars'. -/
def statBarsCard : Claim7 := { stood := { row := statBarsRow, standIns := [], harness := (true, "046a7c28b37248bc677a1cae939754ca7a6584f541cf5c2cff313d17c0b25c55"), looks := false }, kinds := [], alts := [], laidByText := true, laidKinds := [.data, .data, .data], laidTests := true, laidLooks := .later }
def StatBarsCardSaid : Prop := Claim7.holds Tryd.pinned (.plain (OpenSpec.ofChange statBarsSpec)) statBarsCard

/-- THE TIED CARD OF 'mergelenslaw27.StatFormats'. -/
def statFormatsCard : Claim7 := { stood := { row := statFormatsRow, standIns := [], harness := (true, "046a7c28b37248bc677a1cae939754ca7a6584f541cf5c2cff313d17c0b25c55"), looks := false }, kinds := [], alts := [], laidByText := true, laidKinds := [.data, .data, .data], laidTests := true, laidLooks := .later }
def StatFormatsCardSaid : Prop := Claim7.holds Tryd.pinned (.plain (OpenSpec.ofChange statFormatsSpec)) statFormatsCard

/-- THE TIED CARD OF 'mergelenslaw27.StatScales'. -/
def statScalesCard : Claim7 := { stood := { row := statScalesRow, standIns := [], harness := (true, "046a7c28b37248bc677a1cae939754ca7a6584f541cf5c2cff313d17c0b25c55"), looks := false }, kinds := [], alts := [], laidByText := true, laidKinds := [.data, .data, .data], laidTests := true, laidLooks := .later }
def StatScalesCardSaid : Prop := Claim7.holds Tryd.pinned (.plain (OpenSpec.ofChange statScalesSpec)) statScalesCard

/-- THE TIED CARD OF 'mergelenslaw27.StatLines'. -/
def statLinesCard : Claim7 := { stood := { row := statLinesRow, standIns := [], harness := (true, "046a7c28b37248bc677a1cae939754ca7a6584f541cf5c2cff313d17c0b25c55"), looks := false }, kinds := [], alts := [], laidByText := true, laidKinds := [.data, .data, .data], laidTests := true, laidLooks := .later }
def StatLinesCardSaid : Prop := Claim7.holds Tryd.pinned (.plain (OpenSpec.ofChange statLinesSpec)) statLinesCard

/-- THE TIED CARD OF 'mergelenslaw32.CommandFormats'. -/
def commandFormatsCard : Claim7 := { stood := { row := commandFormatsRow, standIns := [], harness := (true, "046a7c28b37248bc677a1cae939754ca7a6584f541cf5c2cff313d17c0b25c55"), looks := false }, kinds := [], alts := [], laidByText := true, laidKinds := [.data, .data, .data], laidTests := true, laidLooks := .later }
def CommandFormatsCardSaid : Prop := Claim7.holds Tryd.pinned (.plain (OpenSpec.ofChange commandFormatsSpec)) commandFormatsCard

/-- THE TIED CARD OF 'mergelenslaw32.CommandRoundTrip'. -/
def commandRoundTripCard : Claim7 := { stood := { row := commandRoundTripRow, standIns := [], harness := (true, "046a7c28b37248bc677a1cae939754ca7a6584f541cf5c2cff313d17c0b25c55"), looks := false }, kinds := [], alts := [], laidByText := true, laidKinds := [.data, .data, .data], laidTests := true, laidLooks := .later }
def CommandRoundTripCardSaid : Prop := Claim7.holds Tryd.pinned (.plain (OpenSpec.ofChange commandRoundTripSpec)) commandRoundTripCard

/-- THE TIED CARD OF 'mergelenslaw32.CommandScripts'. -/
def commandScriptsCard : Claim7 := { stood := { row := commandScriptsRow, standIns := [], harness := (true, "046a7c28b37248bc677a1cae939754ca7a6584f541cf5c2cff313d17c0b25c55"), looks := false }, kinds := [], alts := [], laidByText := true, laidKinds := [.data, .pinned], laidTests := true, laidLooks := .later }
def CommandScriptsCardSaid : Prop := Claim7.holds Tryd.pinned (.plain (OpenSpec.ofChange commandScriptsSpec)) commandScriptsCard

/-- THE TIED CARD OF 'mergelenslaw32.CommandLines'. -/
def commandLinesCard : Claim7 := { stood := { row := commandLinesRow, standIns := [], harness := (true, "046a7c28b37248bc677a1cae939754ca7a6584f541cf5c2cff313d17c0b25c55"), looks := false }, kinds := [], alts := [], laidByText := true, laidKinds := [.data, .pinned], laidTests := true, laidLooks := .later }
def CommandLinesCardSaid : Prop := Claim7.holds Tryd.pinned (.plain (OpenSpec.ofChange commandLinesSpec)) commandLinesCard

/-- THE TIED CARD OF 'mergelenslaw32.CommandLimits'. -/
def commandLimitsCard : Claim7 := { stood := { row := commandLimitsRow, standIns := [], harness := (true, "046a7c28b37248bc677a1cae939754ca7a6584f541cf5c2cff313d17c0b25c55"), looks := false }, kinds := [], alts := [], laidByText := true, laidKinds := [.data, .pinned], laidTests := true, laidLooks := .later }
def CommandLimitsCardSaid : Prop := Claim7.holds Tryd.pinned (.plain (OpenSpec.ofChange commandLimitsSpec)) commandLimitsCard

/-- THE TIED CARD OF 'mergelenslaw27.StatShortest'. -/
def statShortestCard : Claim7 := { stood := { row := statShortestRow, standIns := [], harness := (true, "046a7c28b37248bc677a1cae939754ca7a6584f541cf5c2cff313d17c0b25c55"), looks := false }, kinds := [], alts := [], laidByText := true, laidKinds := [.data, .data, .data, .data, .pinned], laidTests := true, laidLooks := .later }
def StatShortestCardSaid : Prop := Claim7.holds Tryd.pinned (.plain (OpenSpec.ofChange statShortestSpec)) statShortestCard

/-- THE SECOND FORM's CARD OF 'mergelenslaw27.StatBars'. -/
def statBarsUptoCard : Claim7 := { stood := { row := statBarsUptoRow, standIns := [], harness := (true, "046a7c28b37248bc677a1cae939754ca7a6584f541cf5c2cff313d17c0b25c55"), looks := false }, kinds := [], alts := [], laidByText := true, laidKinds := [.data, .data, .data], laidTests := true, laidLooks := .later }
def StatBarsUptoCardSaid : Prop := Claim7.holds Tryd.pinned (.plain (OpenSpec.upto statBarsSpec)) statBarsUptoCard

/-- THE SECOND FORM's CARD OF 'mergelenslaw27.StatFormats'. -/
def statFormatsUptoCard : Claim7 := { stood := { row := statFormatsUptoRow, standIns := [], harness := (true, "046a7c28b37248bc677a1cae939754ca7a6584f541cf5c2cff313d17c0b25c55"), looks := false }, kinds := [], alts := [], laidByText := true, laidKinds := [.data, .data, .data], laidTests := true, laidLooks := .later }
def StatFormatsUptoCardSaid : Prop := Claim7.holds Tryd.pinned (.plain (OpenSpec.upto statFormatsSpec)) statFormatsUptoCard

/-- THE SECOND FORM's CARD OF 'mergelenslaw27.StatScales'. -/
def statScalesUptoCard : Claim7 := { stood := { row := statScalesUptoRow, standIns := [], harness := (true, "046a7c28b37248bc677a1cae939754ca7a6584f541cf5c2cff313d17c0b25c55"), looks := false }, kinds := [], alts := [], laidByText := true, laidKinds := [.data, .data, .data], laidTests := true, laidLooks := .later }
def StatScalesUptoCardSaid : Prop := Claim7.holds Tryd.pinned (.plain (OpenSpec.upto statScalesSpec)) statScalesUptoCard

/-- THE SECOND FORM's CARD OF 'mergelenslaw27.StatLines'. -/
def statLinesUptoCard : Claim7 := { stood := { row := statLinesUptoRow, standIns := [], harness := (true, "046a7c28b37248bc677a1cae939754ca7a6584f541cf5c2cff313d17c0b25c55"), looks := false }, kinds := [], alts := [], laidByText := true, laidKinds := [.data, .data, .data], laidTests := true, laidLooks := .later }
def StatLinesUptoCardSaid : Prop := Claim7.holds Tryd.pinned (.plain (OpenSpec.upto statLinesSpec)) statLinesUptoCard

/-- THE SECOND FORM's CARD OF 'mergelenslaw32.CommandFormats'. -/
def commandFormatsUptoCard : Claim7 := { stood := { row := commandFormatsUptoRow, standIns := [], harness := (true, "046a7c28b37248bc677a1cae939754ca7a6584f541cf5c2cff313d17c0b25c55"), looks := false }, kinds := [], alts := [], laidByText := true, laidKinds := [.data, .data, .data], laidTests := true, laidLooks := .later }
def CommandFormatsUptoCardSaid : Prop := Claim7.holds Tryd.pinned (.plain (OpenSpec.upto commandFormatsSpec)) commandFormatsUptoCard

/-- THE SECOND FORM's CARD OF 'mergelenslaw32.CommandRoundTrip'. -/
def commandRoundTripUptoCard : Claim7 := { stood := { row := commandRoundTripUptoRow, standIns := [], harness := (true, "046a7c28b37248bc677a1cae939754ca7a6584f541cf5c2cff313d17c0b25c55"), looks := false }, kinds := [], alts := [], laidByText := true, laidKinds := [.data, .data, .data], laidTests := true, laidLooks := .later }
def CommandRoundTripUptoCardSaid : Prop := Claim7.holds Tryd.pinned (.plain (OpenSpec.upto commandRoundTripSpec)) commandRoundTripUptoCard

/-- THE SECOND FORM's CARD OF 'mergelenslaw32.CommandScripts'. -/
def commandScriptsUptoCard : Claim7 := { stood := { row := commandScriptsUptoRow, standIns := [], harness := (true, "046a7c28b37248bc677a1cae939754ca7a6584f541cf5c2cff313d17c0b25c55"), looks := false }, kinds := [], alts := [], laidByText := true, laidKinds := [.data, .pinned], laidTests := true, laidLooks := .later }
def CommandScriptsUptoCardSaid : Prop := Claim7.holds Tryd.pinned (.plain (OpenSpec.upto commandScriptsSpec)) commandScriptsUptoCard

/-- THE SECOND FORM's CARD OF 'mergelenslaw32.CommandLines'. -/
def commandLinesUptoCard : Claim7 := { stood := { row := commandLinesUptoRow, standIns := [], harness := (true, "046a7c28b37248bc677a1cae939754ca7a6584f541cf5c2cff313d17c0b25c55"), looks := false }, kinds := [], alts := [], laidByText := true, laidKinds := [.data, .pinned], laidTests := true, laidLooks := .later }
def CommandLinesUptoCardSaid : Prop := Claim7.holds Tryd.pinned (.plain (OpenSpec.upto commandLinesSpec)) commandLinesUptoCard

/-- THE SECOND FORM's CARD OF 'mergelenslaw32.CommandLimits'. -/
def commandLimitsUptoCard : Claim7 := { stood := { row := commandLimitsUptoRow, standIns := [], harness := (true, "046a7c28b37248bc677a1cae939754ca7a6584f541cf5c2cff313d17c0b25c55"), looks := false }, kinds := [], alts := [], laidByText := true, laidKinds := [.data, .pinned], laidTests := true, laidLooks := .later }
def CommandLimitsUptoCardSaid : Prop := Claim7.holds Tryd.pinned (.plain (OpenSpec.upto commandLimitsSpec)) commandLimitsUptoCard

/-- THE SECOND FORM's CARD OF 'mergelenslaw27.StatShortest'. -/
def statShortestUptoCard : Claim7 := { stood := { row := statShortestUptoRow, standIns := [], harness := (true, "046a7c28b37248bc677a1cae939754ca7a6584f541cf5c2cff313d17c0b25c55"), looks := false }, kinds := [], alts := [], laidByText := true, laidKinds := [.data, .data, .data, .data, .pinned], laidTests := true, laidLooks := .later }
def StatShortestUptoCardSaid : Prop := Claim7.holds Tryd.pinned (.plain (OpenSpec.upto statShortestSpec)) statShortestUptoCard
end Rows
end Go.Proofs.YtcaandgkdmidkaaDoor
