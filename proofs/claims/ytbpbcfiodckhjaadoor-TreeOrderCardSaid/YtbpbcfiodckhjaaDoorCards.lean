/-
  DERIVED. GIVEN WITH THE SEED: THE CARDS: each row of YtbpbcfiodckhjaaDoorRows.lean that lists a variable, with what it lists TIED to the program's text (the seventh form; the later family's looks); each row that meets fmt, with fmt's text TOLD by the authors' own Lean function (tested against real Go, not proved from fmt's source: count such statements apart). THE CARD IS WHAT COUNTS. Prove the row's statement (the work); the ties are given (YtbpbcfiodckhjaaDoorTie.lean); close each card by the builder's one call (the guide's Derived/Test/ToyasCard.lean, 'card_holds'). Laid BY PROGRAM, IN A SANDBOX (cutbox-door.mjs). By AI agents, Wed Nov 11 2026. No macro, syntax, notation, axiom, sorry.
-/
import Derived.Test.YtbpbcfiodckhjaaDoorRows
import GoSem.ClaimSeven
namespace Go.Proofs.YtbpbcfiodckhjaaDoor
namespace Rows

/-- THE TIED CARD OF 'mergelenslaw22.SimilarScores'. -/
def similarScoresCard : Claim7 := { stood := { row := similarScoresRow, standIns := [], harness := (true, "9dcd681145146b578581eb59497f56647863b7b2db9ad030c7559b09304ef957"), looks := false }, kinds := [], alts := [], laidByText := true, laidKinds := [.data, .pinned], laidTests := true, laidLooks := .later }
def SimilarScoresCardSaid : Prop := Claim7.holds Tryd.pinned (.plain (OpenSpec.ofChange similarScoresSpec)) similarScoresCard

/-- THE TIED CARD OF 'mergelenslaw22.SimilarSymmetric'. -/
def similarSymmetricCard : Claim7 := { stood := { row := similarSymmetricRow, standIns := [], harness := (true, "9dcd681145146b578581eb59497f56647863b7b2db9ad030c7559b09304ef957"), looks := false }, kinds := [], alts := [], laidByText := true, laidKinds := [.data, .pinned], laidTests := true, laidLooks := .later }
def SimilarSymmetricCardSaid : Prop := Claim7.holds Tryd.pinned (.plain (OpenSpec.ofChange similarSymmetricSpec)) similarSymmetricCard

/-- THE TIED CARD OF 'mergelenslaw21.TreePaths'. -/
def treePathsCard : Claim7 := { stood := { row := treePathsRow, standIns := [], harness := (true, "9dcd681145146b578581eb59497f56647863b7b2db9ad030c7559b09304ef957"), looks := false }, kinds := [], alts := [], laidByText := true, laidKinds := [.data, .pinned], laidTests := true, laidLooks := .later }
def TreePathsCardSaid : Prop := Claim7.holds Tryd.pinned (.plain (OpenSpec.ofChange treePathsSpec)) treePathsCard

/-- THE TIED CARD OF 'mergelenslaw21.TreeChecks'. -/
def treeChecksCard : Claim7 := { stood := { row := treeChecksRow, standIns := [], harness := (true, "9dcd681145146b578581eb59497f56647863b7b2db9ad030c7559b09304ef957"), looks := false }, kinds := [], alts := [], laidByText := true, laidKinds := [.data, .pinned], laidTests := true, laidLooks := .later }
def TreeChecksCardSaid : Prop := Claim7.holds Tryd.pinned (.plain (OpenSpec.ofChange treeChecksSpec)) treeChecksCard

/-- THE TIED CARD OF 'mergelenslaw21.TreeDiffs'. -/
def treeDiffsCard : Claim7 := { stood := { row := treeDiffsRow, standIns := [], harness := (true, "9dcd681145146b578581eb59497f56647863b7b2db9ad030c7559b09304ef957"), looks := false }, kinds := [], alts := [], laidByText := true, laidKinds := [.data, .pinned], laidTests := true, laidLooks := .later }
def TreeDiffsCardSaid : Prop := Claim7.holds Tryd.pinned (.plain (OpenSpec.ofChange treeDiffsSpec)) treeDiffsCard

/-- THE TIED CARD OF 'mergelenslaw21.TreeLimits'. -/
def treeLimitsCard : Claim7 := { stood := { row := treeLimitsRow, standIns := [], harness := (true, "9dcd681145146b578581eb59497f56647863b7b2db9ad030c7559b09304ef957"), looks := false }, kinds := [], alts := [], laidByText := true, laidKinds := [.data, .pinned], laidTests := true, laidLooks := .later }
def TreeLimitsCardSaid : Prop := Claim7.holds Tryd.pinned (.plain (OpenSpec.ofChange treeLimitsSpec)) treeLimitsCard

/-- THE TIED CARD OF 'mergelenslaw21.TreeApplies'. -/
def treeAppliesCard : Claim7 := { stood := { row := treeAppliesRow, standIns := [], harness := (true, "9dcd681145146b578581eb59497f56647863b7b2db9ad030c7559b09304ef957"), looks := false }, kinds := [], alts := [], laidByText := true, laidKinds := [.data, .pinned], laidTests := true, laidLooks := .later }
def TreeAppliesCardSaid : Prop := Claim7.holds Tryd.pinned (.plain (OpenSpec.ofChange treeAppliesSpec)) treeAppliesCard

/-- THE TIED CARD OF 'mergelenslaw22.SimilarRefuses'. -/
def similarRefusesCard : Claim7 := { stood := { row := similarRefusesRow, standIns := [], harness := (true, "9dcd681145146b578581eb59497f56647863b7b2db9ad030c7559b09304ef957"), looks := false }, kinds := [], alts := [], laidByText := true, laidKinds := [.data, .pinned], laidTests := true, laidLooks := .later }
def SimilarRefusesCardSaid : Prop := Claim7.holds Tryd.pinned (.plain (OpenSpec.ofChange similarRefusesSpec)) similarRefusesCard

/-- THE TIED CARD OF 'mergelenslaw22.SimilarPairs'. -/
def similarPairsCard : Claim7 := { stood := { row := similarPairsRow, standIns := [], harness := (true, "9dcd681145146b578581eb59497f56647863b7b2db9ad030c7559b09304ef957"), looks := false }, kinds := [], alts := [], laidByText := true, laidKinds := [.data, .pinned], laidTests := true, laidLooks := .later }
def SimilarPairsCardSaid : Prop := Claim7.holds Tryd.pinned (.plain (OpenSpec.ofChange similarPairsSpec)) similarPairsCard

/-- THE TIED CARD OF 'mergelenslaw21.TreeRestores'. -/
def treeRestoresCard : Claim7 := { stood := { row := treeRestoresRow, standIns := [], harness := (true, "9dcd681145146b578581eb59497f56647863b7b2db9ad030c7559b09304ef957"), looks := false }, kinds := [], alts := [], laidByText := true, laidKinds := [.data, .pinned], laidTests := true, laidLooks := .later }
def TreeRestoresCardSaid : Prop := Claim7.holds Tryd.pinned (.plain (OpenSpec.ofChange treeRestoresSpec)) treeRestoresCard

/-- THE TIED CARD OF 'mergelenslaw21.TreeOrder'. -/
def treeOrderCard : Claim7 := { stood := { row := treeOrderRow, standIns := [], harness := (true, "9dcd681145146b578581eb59497f56647863b7b2db9ad030c7559b09304ef957"), looks := false }, kinds := [], alts := [], laidByText := true, laidKinds := [.data, .pinned], laidTests := true, laidLooks := .later }
def TreeOrderCardSaid : Prop := Claim7.holds Tryd.pinned (.plain (OpenSpec.ofChange treeOrderSpec)) treeOrderCard

/-- THE SECOND FORM's CARD OF 'mergelenslaw22.SimilarScores'. -/
def similarScoresUptoCard : Claim7 := { stood := { row := similarScoresUptoRow, standIns := [], harness := (true, "9dcd681145146b578581eb59497f56647863b7b2db9ad030c7559b09304ef957"), looks := false }, kinds := [], alts := [], laidByText := true, laidKinds := [.data, .pinned], laidTests := true, laidLooks := .later }
def SimilarScoresUptoCardSaid : Prop := Claim7.holds Tryd.pinned (.plain (OpenSpec.upto similarScoresSpec)) similarScoresUptoCard

/-- THE SECOND FORM's CARD OF 'mergelenslaw22.SimilarSymmetric'. -/
def similarSymmetricUptoCard : Claim7 := { stood := { row := similarSymmetricUptoRow, standIns := [], harness := (true, "9dcd681145146b578581eb59497f56647863b7b2db9ad030c7559b09304ef957"), looks := false }, kinds := [], alts := [], laidByText := true, laidKinds := [.data, .pinned], laidTests := true, laidLooks := .later }
def SimilarSymmetricUptoCardSaid : Prop := Claim7.holds Tryd.pinned (.plain (OpenSpec.upto similarSymmetricSpec)) similarSymmetricUptoCard

/-- THE SECOND FORM's CARD OF 'mergelenslaw21.TreePaths'. -/
def treePathsUptoCard : Claim7 := { stood := { row := treePathsUptoRow, standIns := [], harness := (true, "9dcd681145146b578581eb59497f56647863b7b2db9ad030c7559b09304ef957"), looks := false }, kinds := [], alts := [], laidByText := true, laidKinds := [.data, .pinned], laidTests := true, laidLooks := .later }
def TreePathsUptoCardSaid : Prop := Claim7.holds Tryd.pinned (.plain (OpenSpec.upto treePathsSpec)) treePathsUptoCard

/-- THE SECOND FORM's CARD OF 'mergelenslaw21.TreeChecks'. -/
def treeChecksUptoCard : Claim7 := { stood := { row := treeChecksUptoRow, standIns := [], harness := (true, "9dcd681145146b578581eb59497f56647863b7b2db9ad030c7559b09304ef957"), looks := false }, kinds := [], alts := [], laidByText := true, laidKinds := [.data, .pinned], laidTests := true, laidLooks := .later }
def TreeChecksUptoCardSaid : Prop := Claim7.holds Tryd.pinned (.plain (OpenSpec.upto treeChecksSpec)) treeChecksUptoCard

/-- THE SECOND FORM's CARD OF 'mergelenslaw21.TreeDiffs'. -/
def treeDiffsUptoCard : Claim7 := { stood := { row := treeDiffsUptoRow, standIns := [], harness := (true, "9dcd681145146b578581eb59497f56647863b7b2db9ad030c7559b09304ef957"), looks := false }, kinds := [], alts := [], laidByText := true, laidKinds := [.data, .pinned], laidTests := true, laidLooks := .later }
def TreeDiffsUptoCardSaid : Prop := Claim7.holds Tryd.pinned (.plain (OpenSpec.upto treeDiffsSpec)) treeDiffsUptoCard

/-- THE SECOND FORM's CARD OF 'mergelenslaw21.TreeLimits'. -/
def treeLimitsUptoCard : Claim7 := { stood := { row := treeLimitsUptoRow, standIns := [], harness := (true, "9dcd681145146b578581eb59497f56647863b7b2db9ad030c7559b09304ef957"), looks := false }, kinds := [], alts := [], laidByText := true, laidKinds := [.data, .pinned], laidTests := true, laidLooks := .later }
def TreeLimitsUptoCardSaid : Prop := Claim7.holds Tryd.pinned (.plain (OpenSpec.upto treeLimitsSpec)) treeLimitsUptoCard

/-- THE SECOND FORM's CARD OF 'mergelenslaw21.TreeApplies'. -/
def treeAppliesUptoCard : Claim7 := { stood := { row := treeAppliesUptoRow, standIns := [], harness := (true, "9dcd681145146b578581eb59497f56647863b7b2db9ad030c7559b09304ef957"), looks := false }, kinds := [], alts := [], laidByText := true, laidKinds := [.data, .pinned], laidTests := true, laidLooks := .later }
def TreeAppliesUptoCardSaid : Prop := Claim7.holds Tryd.pinned (.plain (OpenSpec.upto treeAppliesSpec)) treeAppliesUptoCard

/-- THE SECOND FORM's CARD OF 'mergelenslaw22.SimilarRefuses'. -/
def similarRefusesUptoCard : Claim7 := { stood := { row := similarRefusesUptoRow, standIns := [], harness := (true, "9dcd681145146b578581eb59497f56647863b7b2db9ad030c7559b09304ef957"), looks := false }, kinds := [], alts := [], laidByText := true, laidKinds := [.data, .pinned], laidTests := true, laidLooks := .later }
def SimilarRefusesUptoCardSaid : Prop := Claim7.holds Tryd.pinned (.plain (OpenSpec.upto similarRefusesSpec)) similarRefusesUptoCard

/-- THE SECOND FORM's CARD OF 'mergelenslaw22.SimilarPairs'. -/
def similarPairsUptoCard : Claim7 := { stood := { row := similarPairsUptoRow, standIns := [], harness := (true, "9dcd681145146b578581eb59497f56647863b7b2db9ad030c7559b09304ef957"), looks := false }, kinds := [], alts := [], laidByText := true, laidKinds := [.data, .pinned], laidTests := true, laidLooks := .later }
def SimilarPairsUptoCardSaid : Prop := Claim7.holds Tryd.pinned (.plain (OpenSpec.upto similarPairsSpec)) similarPairsUptoCard

/-- THE SECOND FORM's CARD OF 'mergelenslaw21.TreeRestores'. -/
def treeRestoresUptoCard : Claim7 := { stood := { row := treeRestoresUptoRow, standIns := [], harness := (true, "9dcd681145146b578581eb59497f56647863b7b2db9ad030c7559b09304ef957"), looks := false }, kinds := [], alts := [], laidByText := true, laidKinds := [.data, .pinned], laidTests := true, laidLooks := .later }
def TreeRestoresUptoCardSaid : Prop := Claim7.holds Tryd.pinned (.plain (OpenSpec.upto treeRestoresSpec)) treeRestoresUptoCard

/-- THE SECOND FORM's CARD OF 'mergelenslaw21.TreeOrder'. -/
def treeOrderUptoCard : Claim7 := { stood := { row := treeOrderUptoRow, standIns := [], harness := (true, "9dcd681145146b578581eb59497f56647863b7b2db9ad030c7559b09304ef957"), looks := false }, kinds := [], alts := [], laidByText := true, laidKinds := [.data, .pinned], laidTests := true, laidLooks := .later }
def TreeOrderUptoCardSaid : Prop := Claim7.holds Tryd.pinned (.plain (OpenSpec.upto treeOrderSpec)) treeOrderUptoCard
end Rows
end Go.Proofs.YtbpbcfiodckhjaaDoor
