/-
  NARROWER THAN 'FOR EVERY INPUT', by the rows' own cells (each row's printed sentence says how): SimilarScores: laid · SimilarSymmetric: laid · TreePaths: laid · TreeChecks: laid · TreeDiffs: laid · TreeLimits: laid · TreeApplies: laid · SimilarRefuses: laid · SimilarPairs: laid · TreeRestores: laid · TreeOrder: laid.
  DERIVED. THE GIVEN ROWS OF THIS SEAT. 11 by the template 'for every input the law returns true; each argument reads behind the call as it read before'; 0 by the template 'total and deterministic' (their statements: YtbpbcfiodckhjaaDoorTotals.lean).
  GIVEN WITH THE SEED: the statements are not yours to turn. If you find one false, say at which input.
  Laid BY PROGRAM, IN A SANDBOX (cutbox-rows.mjs): the forced cells as the released guide's own fill.sh prints them over the translation fddf64e45362dbda… (all of the seat's roots in one cut). By AI agents, Wed Nov 11 2026. No macro, syntax, notation, axiom, sorry.
-/
import Derived.Test.YtbpbcfiodckhjaaDoorChecked
import GoSem.PinnedTables
import GoSem.Claim
import GoSem.ClaimJoined
import GoSem.ClaimMapViews
import Derived.JoinedTies
import Derived.KernelRfl
namespace Go.Proofs.YtbpbcfiodckhjaaDoor
/- THE CELL 'sum', in the pinned program and in every row, IS THE sha256 OF THE DUMP (.gsa) THAT YtbpbcfiodckhjaaDoorProg.lean LOADS. Nothing in Lean hashes anything: it is a label: what it is worth is what the hold of that sum in a sandbox is worth. -/
noncomputable def Tryd.pinned : Pinned := { name := "ytbpbcfiodckhjaadoor", sum := "fddf64e45362dbdaf17bae91089956857e0e5db8a60be1b01162da366acef895", checked := Tryd.checked }
namespace Rows
def none {H : Type} : Left H := { results := [], args := [] }

/- WHAT THE LISTED PACKAGE-LEVEL VARIABLES READ AS WHEN THE CALL BEGINS. Each datum BY PROGRAM (the guide's laid-datum.mjs) off the statement by which the dump's own 'gosem.cut.vars' lays the variable. In a bare row this is a premise. The card (YtbpbcfiodckhjaaDoorCards.lean) ties it to the program's text. -/
def laid_unicode_utf8_acceptRanges {H : Type} : DataW H := .agg [.agg [.lit (.int .u8 128), .lit (.int .u8 191)], .agg [.lit (.int .u8 160), .lit (.int .u8 191)], .agg [.lit (.int .u8 128), .lit (.int .u8 159)], .agg [.lit (.int .u8 144), .lit (.int .u8 191)], .agg [.lit (.int .u8 128), .lit (.int .u8 143)], .agg [.lit (.int .u8 0), .lit (.int .u8 0)], .agg [.lit (.int .u8 0), .lit (.int .u8 0)], .agg [.lit (.int .u8 0), .lit (.int .u8 0)], .agg [.lit (.int .u8 0), .lit (.int .u8 0)], .agg [.lit (.int .u8 0), .lit (.int .u8 0)], .agg [.lit (.int .u8 0), .lit (.int .u8 0)], .agg [.lit (.int .u8 0), .lit (.int .u8 0)], .agg [.lit (.int .u8 0), .lit (.int .u8 0)], .agg [.lit (.int .u8 0), .lit (.int .u8 0)], .agg [.lit (.int .u8 0), .lit (.int .u8 0)], .agg [.lit (.int .u8 0), .lit (.int .u8 0)]]
/-- One of Go's own tables, pinned by name: the form's constant. -/
def laid_unicode_utf8_first : DataW Unit := Go.Pinned.utf8First

/-- 'mergelenslaw22.SimilarScores': WHATEVER THE INPUT: true; the input reads as it did. -/
def similarScoresSpec : ChangeSpec := { name := "similarScores", fn := fun _ => fun
  | [d1, d2, d3] => { results := [.lit (.bool true)], args := [d1, d2, d3] }
  | _ => none }
def similarScoresRow : OpenClaim := { program := "ytbpbcfiodckhjaadoor", sum := "fddf64e45362dbdaf17bae91089956857e0e5db8a60be1b01162da366acef895", func := "mergelens/mergelenslaw22.SimilarScores", spec := "similarScores", inPlace := ["internal/bytealg.CountString", "internal/bytealg.IndexByteString", "internal/bytealg.IndexString"], named := ["internal/bytealg.MaxLen", "unicode/utf8.first", "unicode/utf8.acceptRanges"], apart := false, laid := [("unicode/utf8.acceptRanges", laid_unicode_utf8_acceptRanges), ("unicode/utf8.first", laid_unicode_utf8_first)] }
def SimilarScoresSaid : Prop := similarScoresRow.holds Tryd.pinned (OpenSpec.ofChange similarScoresSpec)

/-- ITS FALSE NEIGHBOUR: 'it returns false'. Refute it at one input. -/
def similarScoresWrong : ChangeSpec := { name := "similarScores", fn := fun _ => fun
  | [d1, d2, d3] => { results := [.lit (.bool false)], args := [d1, d2, d3] }
  | _ => none }
def SimilarScoresWrongFalsely : Prop := similarScoresRow.holds Tryd.pinned (OpenSpec.ofChange similarScoresWrong)

/-- 'mergelenslaw22.SimilarSymmetric': WHATEVER THE INPUT: true; the input reads as it did. -/
def similarSymmetricSpec : ChangeSpec := { name := "similarSymmetric", fn := fun _ => fun
  | [d1, d2] => { results := [.lit (.bool true)], args := [d1, d2] }
  | _ => none }
def similarSymmetricRow : OpenClaim := { program := "ytbpbcfiodckhjaadoor", sum := "fddf64e45362dbdaf17bae91089956857e0e5db8a60be1b01162da366acef895", func := "mergelens/mergelenslaw22.SimilarSymmetric", spec := "similarSymmetric", inPlace := ["internal/bytealg.CountString", "internal/bytealg.IndexByteString", "internal/bytealg.IndexString"], named := ["internal/bytealg.MaxLen", "unicode/utf8.first", "unicode/utf8.acceptRanges"], apart := false, laid := [("unicode/utf8.acceptRanges", laid_unicode_utf8_acceptRanges), ("unicode/utf8.first", laid_unicode_utf8_first)] }
def SimilarSymmetricSaid : Prop := similarSymmetricRow.holds Tryd.pinned (OpenSpec.ofChange similarSymmetricSpec)

/-- ITS FALSE NEIGHBOUR: 'it returns false'. Refute it at one input. -/
def similarSymmetricWrong : ChangeSpec := { name := "similarSymmetric", fn := fun _ => fun
  | [d1, d2] => { results := [.lit (.bool false)], args := [d1, d2] }
  | _ => none }
def SimilarSymmetricWrongFalsely : Prop := similarSymmetricRow.holds Tryd.pinned (OpenSpec.ofChange similarSymmetricWrong)

/-- 'mergelenslaw21.TreePaths': WHATEVER THE INPUT: true; the input reads as it did. -/
def treePathsSpec : ChangeSpec := { name := "treePaths", fn := fun _ => fun
  | [d1, d2, d3] => { results := [.lit (.bool true)], args := [d1, d2, d3] }
  | _ => none }
def treePathsRow : OpenClaim := { program := "ytbpbcfiodckhjaadoor", sum := "fddf64e45362dbdaf17bae91089956857e0e5db8a60be1b01162da366acef895", func := "mergelens/mergelenslaw21.TreePaths", spec := "treePaths", inPlace := ["internal/bytealg.IndexByteString", "internal/bytealg.IndexString", "internal/bytealg.CountString"], unfollowed := true, recurses := true, named := ["internal/bytealg.MaxLen", "unicode/utf8.first", "unicode/utf8.acceptRanges"], apart := false, laid := [("unicode/utf8.acceptRanges", laid_unicode_utf8_acceptRanges), ("unicode/utf8.first", laid_unicode_utf8_first)] }
def TreePathsSaid : Prop := treePathsRow.holds Tryd.pinned (OpenSpec.ofChange treePathsSpec)

/-- ITS FALSE NEIGHBOUR: 'it returns false'. Refute it at one input. -/
def treePathsWrong : ChangeSpec := { name := "treePaths", fn := fun _ => fun
  | [d1, d2, d3] => { results := [.lit (.bool false)], args := [d1, d2, d3] }
  | _ => none }
def TreePathsWrongFalsely : Prop := treePathsRow.holds Tryd.pinned (OpenSpec.ofChange treePathsWrong)

/-- 'mergelenslaw21.TreeChecks': WHATEVER THE INPUT: true; the input reads as it did. -/
def treeChecksSpec : ChangeSpec := { name := "treeChecks", fn := fun _ => fun
  | [d1, d2, d3, d4] => { results := [.lit (.bool true)], args := [d1, d2, d3, d4] }
  | _ => none }
def treeChecksRow : OpenClaim := { program := "ytbpbcfiodckhjaadoor", sum := "fddf64e45362dbdaf17bae91089956857e0e5db8a60be1b01162da366acef895", func := "mergelens/mergelenslaw21.TreeChecks", spec := "treeChecks", inPlace := ["internal/bytealg.IndexByteString", "internal/bytealg.IndexString", "internal/bytealg.CountString"], unfollowed := true, recurses := true, named := ["internal/bytealg.MaxLen", "unicode/utf8.first", "unicode/utf8.acceptRanges"], apart := false, laid := [("unicode/utf8.acceptRanges", laid_unicode_utf8_acceptRanges), ("unicode/utf8.first", laid_unicode_utf8_first)] }
def TreeChecksSaid : Prop := treeChecksRow.holds Tryd.pinned (OpenSpec.ofChange treeChecksSpec)

/-- ITS FALSE NEIGHBOUR: 'it returns false'. Refute it at one input. -/
def treeChecksWrong : ChangeSpec := { name := "treeChecks", fn := fun _ => fun
  | [d1, d2, d3, d4] => { results := [.lit (.bool false)], args := [d1, d2, d3, d4] }
  | _ => none }
def TreeChecksWrongFalsely : Prop := treeChecksRow.holds Tryd.pinned (OpenSpec.ofChange treeChecksWrong)

/-- 'mergelenslaw21.TreeDiffs': WHATEVER THE INPUT: true; the input reads as it did. -/
def treeDiffsSpec : ChangeSpec := { name := "treeDiffs", fn := fun _ => fun
  | [d1, d2, d3] => { results := [.lit (.bool true)], args := [d1, d2, d3] }
  | _ => none }
def treeDiffsRow : OpenClaim := { program := "ytbpbcfiodckhjaadoor", sum := "fddf64e45362dbdaf17bae91089956857e0e5db8a60be1b01162da366acef895", func := "mergelens/mergelenslaw21.TreeDiffs", spec := "treeDiffs", inPlace := ["internal/bytealg.IndexByteString", "internal/bytealg.IndexString", "internal/bytealg.CountString", "internal/bytealg.abigen_runtime_cmpstring"], unfollowed := true, recurses := true, named := ["internal/bytealg.MaxLen", "unicode/utf8.first", "unicode/utf8.acceptRanges"], apart := false, laid := [("unicode/utf8.acceptRanges", laid_unicode_utf8_acceptRanges), ("unicode/utf8.first", laid_unicode_utf8_first)] }
def TreeDiffsSaid : Prop := treeDiffsRow.holds Tryd.pinned (OpenSpec.ofChange treeDiffsSpec)

/-- ITS FALSE NEIGHBOUR: 'it returns false'. Refute it at one input. -/
def treeDiffsWrong : ChangeSpec := { name := "treeDiffs", fn := fun _ => fun
  | [d1, d2, d3] => { results := [.lit (.bool false)], args := [d1, d2, d3] }
  | _ => none }
def TreeDiffsWrongFalsely : Prop := treeDiffsRow.holds Tryd.pinned (OpenSpec.ofChange treeDiffsWrong)

/-- 'mergelenslaw21.TreeLimits': WHATEVER THE INPUT: true; the input reads as it did. -/
def treeLimitsSpec : ChangeSpec := { name := "treeLimits", fn := fun _ => fun
  | [d] => { results := [.lit (.bool true)], args := [d] }
  | _ => none }
def treeLimitsRow : OpenClaim := { program := "ytbpbcfiodckhjaadoor", sum := "fddf64e45362dbdaf17bae91089956857e0e5db8a60be1b01162da366acef895", func := "mergelens/mergelenslaw21.TreeLimits", spec := "treeLimits", inPlace := ["internal/bytealg.IndexByteString", "internal/bytealg.IndexString", "internal/bytealg.CountString", "internal/bytealg.abigen_runtime_cmpstring"], unfollowed := true, recurses := true, named := ["internal/bytealg.MaxLen", "unicode/utf8.first", "unicode/utf8.acceptRanges"], apart := false, laid := [("unicode/utf8.acceptRanges", laid_unicode_utf8_acceptRanges), ("unicode/utf8.first", laid_unicode_utf8_first)] }
def TreeLimitsSaid : Prop := treeLimitsRow.holds Tryd.pinned (OpenSpec.ofChange treeLimitsSpec)

/-- ITS FALSE NEIGHBOUR: 'it returns false'. Refute it at one input. -/
def treeLimitsWrong : ChangeSpec := { name := "treeLimits", fn := fun _ => fun
  | [d] => { results := [.lit (.bool false)], args := [d] }
  | _ => none }
def TreeLimitsWrongFalsely : Prop := treeLimitsRow.holds Tryd.pinned (OpenSpec.ofChange treeLimitsWrong)

/-- 'mergelenslaw21.TreeApplies': WHATEVER THE INPUT: true; the input reads as it did. -/
def treeAppliesSpec : ChangeSpec := { name := "treeApplies", fn := fun _ => fun
  | [d1, d2, d3, d4] => { results := [.lit (.bool true)], args := [d1, d2, d3, d4] }
  | _ => none }
def treeAppliesRow : OpenClaim := { program := "ytbpbcfiodckhjaadoor", sum := "fddf64e45362dbdaf17bae91089956857e0e5db8a60be1b01162da366acef895", func := "mergelens/mergelenslaw21.TreeApplies", spec := "treeApplies", inPlace := ["internal/bytealg.IndexByteString", "internal/bytealg.IndexString", "internal/bytealg.CountString"], unfollowed := true, recurses := true, named := ["internal/bytealg.MaxLen", "unicode/utf8.first", "unicode/utf8.acceptRanges"], apart := false, laid := [("unicode/utf8.acceptRanges", laid_unicode_utf8_acceptRanges), ("unicode/utf8.first", laid_unicode_utf8_first)] }
def TreeAppliesSaid : Prop := treeAppliesRow.holds Tryd.pinned (OpenSpec.ofChange treeAppliesSpec)

/-- ITS FALSE NEIGHBOUR: 'it returns false'. Refute it at one input. -/
def treeAppliesWrong : ChangeSpec := { name := "treeApplies", fn := fun _ => fun
  | [d1, d2, d3, d4] => { results := [.lit (.bool false)], args := [d1, d2, d3, d4] }
  | _ => none }
def TreeAppliesWrongFalsely : Prop := treeAppliesRow.holds Tryd.pinned (OpenSpec.ofChange treeAppliesWrong)

/-- 'mergelenslaw22.SimilarRefuses': WHATEVER THE INPUT: true; the input reads as it did. -/
def similarRefusesSpec : ChangeSpec := { name := "similarRefuses", fn := fun _ => fun
  | [d1, d2, d3] => { results := [.lit (.bool true)], args := [d1, d2, d3] }
  | _ => none }
def similarRefusesRow : OpenClaim := { program := "ytbpbcfiodckhjaadoor", sum := "fddf64e45362dbdaf17bae91089956857e0e5db8a60be1b01162da366acef895", func := "mergelens/mergelenslaw22.SimilarRefuses", spec := "similarRefuses", inPlace := ["internal/bytealg.CountString", "internal/bytealg.IndexByteString", "internal/bytealg.IndexString", "internal/bytealg.abigen_runtime_cmpstring"], unfollowed := true, recurses := true, named := ["internal/bytealg.MaxLen", "unicode/utf8.first", "unicode/utf8.acceptRanges"], apart := false, laid := [("unicode/utf8.acceptRanges", laid_unicode_utf8_acceptRanges), ("unicode/utf8.first", laid_unicode_utf8_first)] }
def SimilarRefusesSaid : Prop := similarRefusesRow.holds Tryd.pinned (OpenSpec.ofChange similarRefusesSpec)

/-- ITS FALSE NEIGHBOUR: 'it returns false'. Refute it at one input. -/
def similarRefusesWrong : ChangeSpec := { name := "similarRefuses", fn := fun _ => fun
  | [d1, d2, d3] => { results := [.lit (.bool false)], args := [d1, d2, d3] }
  | _ => none }
def SimilarRefusesWrongFalsely : Prop := similarRefusesRow.holds Tryd.pinned (OpenSpec.ofChange similarRefusesWrong)

/-- 'mergelenslaw22.SimilarPairs': WHATEVER THE INPUT: true; the input reads as it did. -/
def similarPairsSpec : ChangeSpec := { name := "similarPairs", fn := fun _ => fun
  | [d1, d2] => { results := [.lit (.bool true)], args := [d1, d2] }
  | _ => none }
def similarPairsRow : OpenClaim := { program := "ytbpbcfiodckhjaadoor", sum := "fddf64e45362dbdaf17bae91089956857e0e5db8a60be1b01162da366acef895", func := "mergelens/mergelenslaw22.SimilarPairs", spec := "similarPairs", inPlace := ["internal/bytealg.IndexByteString", "internal/bytealg.IndexString", "internal/bytealg.CountString", "internal/bytealg.abigen_runtime_cmpstring"], unfollowed := true, recurses := true, named := ["internal/bytealg.MaxLen", "unicode/utf8.first", "unicode/utf8.acceptRanges"], apart := false, laid := [("unicode/utf8.acceptRanges", laid_unicode_utf8_acceptRanges), ("unicode/utf8.first", laid_unicode_utf8_first)] }
def SimilarPairsSaid : Prop := similarPairsRow.holds Tryd.pinned (OpenSpec.ofChange similarPairsSpec)

/-- ITS FALSE NEIGHBOUR: 'it returns false'. Refute it at one input. -/
def similarPairsWrong : ChangeSpec := { name := "similarPairs", fn := fun _ => fun
  | [d1, d2] => { results := [.lit (.bool false)], args := [d1, d2] }
  | _ => none }
def SimilarPairsWrongFalsely : Prop := similarPairsRow.holds Tryd.pinned (OpenSpec.ofChange similarPairsWrong)

/-- 'mergelenslaw21.TreeRestores': WHATEVER THE INPUT: true; the input reads as it did. -/
def treeRestoresSpec : ChangeSpec := { name := "treeRestores", fn := fun _ => fun
  | [d] => { results := [.lit (.bool true)], args := [d] }
  | _ => none }
def treeRestoresRow : OpenClaim := { program := "ytbpbcfiodckhjaadoor", sum := "fddf64e45362dbdaf17bae91089956857e0e5db8a60be1b01162da366acef895", func := "mergelens/mergelenslaw21.TreeRestores", spec := "treeRestores", inPlace := ["internal/bytealg.IndexByteString", "internal/bytealg.IndexString", "internal/bytealg.CountString", "internal/bytealg.abigen_runtime_cmpstring"], unfollowed := true, recurses := true, named := ["internal/bytealg.MaxLen", "unicode/utf8.first", "unicode/utf8.acceptRanges"], apart := false, laid := [("unicode/utf8.acceptRanges", laid_unicode_utf8_acceptRanges), ("unicode/utf8.first", laid_unicode_utf8_first)] }
def TreeRestoresSaid : Prop := treeRestoresRow.holds Tryd.pinned (OpenSpec.ofChange treeRestoresSpec)

/-- ITS FALSE NEIGHBOUR: 'it returns false'. Refute it at one input. -/
def treeRestoresWrong : ChangeSpec := { name := "treeRestores", fn := fun _ => fun
  | [d] => { results := [.lit (.bool false)], args := [d] }
  | _ => none }
def TreeRestoresWrongFalsely : Prop := treeRestoresRow.holds Tryd.pinned (OpenSpec.ofChange treeRestoresWrong)

/-- 'mergelenslaw21.TreeOrder': WHATEVER THE INPUT: true; the input reads as it did. -/
def treeOrderSpec : ChangeSpec := { name := "treeOrder", fn := fun _ => fun
  | [d1, d2] => { results := [.lit (.bool true)], args := [d1, d2] }
  | _ => none }
def treeOrderRow : OpenClaim := { program := "ytbpbcfiodckhjaadoor", sum := "fddf64e45362dbdaf17bae91089956857e0e5db8a60be1b01162da366acef895", func := "mergelens/mergelenslaw21.TreeOrder", spec := "treeOrder", inPlace := ["internal/bytealg.IndexByteString", "internal/bytealg.IndexString", "internal/bytealg.CountString", "internal/bytealg.abigen_runtime_cmpstring"], unfollowed := true, recurses := true, named := ["internal/bytealg.MaxLen", "unicode/utf8.first", "unicode/utf8.acceptRanges"], apart := false, laid := [("unicode/utf8.acceptRanges", laid_unicode_utf8_acceptRanges), ("unicode/utf8.first", laid_unicode_utf8_first)] }
def TreeOrderSaid : Prop := treeOrderRow.holds Tryd.pinned (OpenSpec.ofChange treeOrderSpec)

/-- ITS FALSE NEIGHBOUR: 'it returns false'. Refute it at one input. -/
def treeOrderWrong : ChangeSpec := { name := "treeOrder", fn := fun _ => fun
  | [d1, d2] => { results := [.lit (.bool false)], args := [d1, d2] }
  | _ => none }
def TreeOrderWrongFalsely : Prop := treeOrderRow.holds Tryd.pinned (OpenSpec.ofChange treeOrderWrong)

/- THE SECOND FORM. 'bulk': how many values and letters a reading holds, each counted each time it is reached (what is shared counts as often as it is met; a slice's spare places count too). A statement '..UptoSaid' is the law's where the arguments, and the package variables that the reading takes, are together of bulk at most 1048576: NARROWER than '..Said'. Prove '..Said' where nothing that the law and all that it calls make is longer than what came in: it says more and counts as full. Else prove '..UptoSaid'. A law counts once. -/
mutual
def uptoBulk {H : Type} : DataW H → Nat
  | .lit (.string bytes) => bytes.length + 1
  | .lit _ => 1
  | .nil => 1
  | .ptr d => uptoBulk d + 1
  | .slice elems spare => uptoBulkAll elems + uptoBulkAll spare + 1
  | .agg parts => uptoBulkAll parts + 1
  | .iface _ d => uptoBulk d + 1
  | .map entries => uptoBulkEntries entries + 1
  | .held _ => 1
def uptoBulkAll {H : Type} : List (DataW H) → Nat
  | [] => 0
  | d :: r => uptoBulk d + uptoBulkAll r
def uptoBulkEntries {H : Type} : List (Lit × DataW H) → Nat
  | [] => 0
  | x :: r => uptoBulkEntry x + uptoBulkEntries r
def uptoBulkEntry {H : Type} : Lit × DataW H → Nat
  | (.string bytes, d) => bytes.length + uptoBulk d + 1
  | (_, d) => uptoBulk d + 1
 end
def uptoSmall : (H : Type) → List (DataW H) → Bool := fun _ ds => decide (uptoBulkAll ds ≤ 1048576)
def OpenSpec.upto (s : _root_.Go.ChangeSpec) : _root_.Go.OpenSpec := { _root_.Go.OpenSpec.ofChange s with cond := some uptoSmall }

/-- 'mergelenslaw22.SimilarScores', WHERE WHAT IT READS IS OF BULK AT MOST 1048576: true; the input reads as it did. -/
def similarScoresUptoRow : OpenClaim := { program := "ytbpbcfiodckhjaadoor", sum := "fddf64e45362dbdaf17bae91089956857e0e5db8a60be1b01162da366acef895", func := "mergelens/mergelenslaw22.SimilarScores", spec := "similarScores", inPlace := ["internal/bytealg.CountString", "internal/bytealg.IndexByteString", "internal/bytealg.IndexString"], named := ["internal/bytealg.MaxLen", "unicode/utf8.first", "unicode/utf8.acceptRanges"], apart := false, laid := [("unicode/utf8.acceptRanges", laid_unicode_utf8_acceptRanges), ("unicode/utf8.first", laid_unicode_utf8_first)], narrowed := true }
def SimilarScoresUptoSaid : Prop := similarScoresUptoRow.holds Tryd.pinned (OpenSpec.upto similarScoresSpec)

/-- 'mergelenslaw22.SimilarSymmetric', WHERE WHAT IT READS IS OF BULK AT MOST 1048576: true; the input reads as it did. -/
def similarSymmetricUptoRow : OpenClaim := { program := "ytbpbcfiodckhjaadoor", sum := "fddf64e45362dbdaf17bae91089956857e0e5db8a60be1b01162da366acef895", func := "mergelens/mergelenslaw22.SimilarSymmetric", spec := "similarSymmetric", inPlace := ["internal/bytealg.CountString", "internal/bytealg.IndexByteString", "internal/bytealg.IndexString"], named := ["internal/bytealg.MaxLen", "unicode/utf8.first", "unicode/utf8.acceptRanges"], apart := false, laid := [("unicode/utf8.acceptRanges", laid_unicode_utf8_acceptRanges), ("unicode/utf8.first", laid_unicode_utf8_first)], narrowed := true }
def SimilarSymmetricUptoSaid : Prop := similarSymmetricUptoRow.holds Tryd.pinned (OpenSpec.upto similarSymmetricSpec)

/-- 'mergelenslaw21.TreePaths', WHERE WHAT IT READS IS OF BULK AT MOST 1048576: true; the input reads as it did. -/
def treePathsUptoRow : OpenClaim := { program := "ytbpbcfiodckhjaadoor", sum := "fddf64e45362dbdaf17bae91089956857e0e5db8a60be1b01162da366acef895", func := "mergelens/mergelenslaw21.TreePaths", spec := "treePaths", inPlace := ["internal/bytealg.IndexByteString", "internal/bytealg.IndexString", "internal/bytealg.CountString"], unfollowed := true, recurses := true, named := ["internal/bytealg.MaxLen", "unicode/utf8.first", "unicode/utf8.acceptRanges"], apart := false, laid := [("unicode/utf8.acceptRanges", laid_unicode_utf8_acceptRanges), ("unicode/utf8.first", laid_unicode_utf8_first)], narrowed := true }
def TreePathsUptoSaid : Prop := treePathsUptoRow.holds Tryd.pinned (OpenSpec.upto treePathsSpec)

/-- 'mergelenslaw21.TreeChecks', WHERE WHAT IT READS IS OF BULK AT MOST 1048576: true; the input reads as it did. -/
def treeChecksUptoRow : OpenClaim := { program := "ytbpbcfiodckhjaadoor", sum := "fddf64e45362dbdaf17bae91089956857e0e5db8a60be1b01162da366acef895", func := "mergelens/mergelenslaw21.TreeChecks", spec := "treeChecks", inPlace := ["internal/bytealg.IndexByteString", "internal/bytealg.IndexString", "internal/bytealg.CountString"], unfollowed := true, recurses := true, named := ["internal/bytealg.MaxLen", "unicode/utf8.first", "unicode/utf8.acceptRanges"], apart := false, laid := [("unicode/utf8.acceptRanges", laid_unicode_utf8_acceptRanges), ("unicode/utf8.first", laid_unicode_utf8_first)], narrowed := true }
def TreeChecksUptoSaid : Prop := treeChecksUptoRow.holds Tryd.pinned (OpenSpec.upto treeChecksSpec)

/-- 'mergelenslaw21.TreeDiffs', WHERE WHAT IT READS IS OF BULK AT MOST 1048576: true; the input reads as it did. -/
def treeDiffsUptoRow : OpenClaim := { program := "ytbpbcfiodckhjaadoor", sum := "fddf64e45362dbdaf17bae91089956857e0e5db8a60be1b01162da366acef895", func := "mergelens/mergelenslaw21.TreeDiffs", spec := "treeDiffs", inPlace := ["internal/bytealg.IndexByteString", "internal/bytealg.IndexString", "internal/bytealg.CountString", "internal/bytealg.abigen_runtime_cmpstring"], unfollowed := true, recurses := true, named := ["internal/bytealg.MaxLen", "unicode/utf8.first", "unicode/utf8.acceptRanges"], apart := false, laid := [("unicode/utf8.acceptRanges", laid_unicode_utf8_acceptRanges), ("unicode/utf8.first", laid_unicode_utf8_first)], narrowed := true }
def TreeDiffsUptoSaid : Prop := treeDiffsUptoRow.holds Tryd.pinned (OpenSpec.upto treeDiffsSpec)

/-- 'mergelenslaw21.TreeLimits', WHERE WHAT IT READS IS OF BULK AT MOST 1048576: true; the input reads as it did. -/
def treeLimitsUptoRow : OpenClaim := { program := "ytbpbcfiodckhjaadoor", sum := "fddf64e45362dbdaf17bae91089956857e0e5db8a60be1b01162da366acef895", func := "mergelens/mergelenslaw21.TreeLimits", spec := "treeLimits", inPlace := ["internal/bytealg.IndexByteString", "internal/bytealg.IndexString", "internal/bytealg.CountString", "internal/bytealg.abigen_runtime_cmpstring"], unfollowed := true, recurses := true, named := ["internal/bytealg.MaxLen", "unicode/utf8.first", "unicode/utf8.acceptRanges"], apart := false, laid := [("unicode/utf8.acceptRanges", laid_unicode_utf8_acceptRanges), ("unicode/utf8.first", laid_unicode_utf8_first)], narrowed := true }
def TreeLimitsUptoSaid : Prop := treeLimitsUptoRow.holds Tryd.pinned (OpenSpec.upto treeLimitsSpec)

/-- 'mergelenslaw21.TreeApplies', WHERE WHAT IT READS IS OF BULK AT MOST 1048576: true; the input reads as it did. -/
def treeAppliesUptoRow : OpenClaim := { program := "ytbpbcfiodckhjaadoor", sum := "fddf64e45362dbdaf17bae91089956857e0e5db8a60be1b01162da366acef895", func := "mergelens/mergelenslaw21.TreeApplies", spec := "treeApplies", inPlace := ["internal/bytealg.IndexByteString", "internal/bytealg.IndexString", "internal/bytealg.CountString"], unfollowed := true, recurses := true, named := ["internal/bytealg.MaxLen", "unicode/utf8.first", "unicode/utf8.acceptRanges"], apart := false, laid := [("unicode/utf8.acceptRanges", laid_unicode_utf8_acceptRanges), ("unicode/utf8.first", laid_unicode_utf8_first)], narrowed := true }
def TreeAppliesUptoSaid : Prop := treeAppliesUptoRow.holds Tryd.pinned (OpenSpec.upto treeAppliesSpec)

/-- 'mergelenslaw22.SimilarRefuses', WHERE WHAT IT READS IS OF BULK AT MOST 1048576: true; the input reads as it did. -/
def similarRefusesUptoRow : OpenClaim := { program := "ytbpbcfiodckhjaadoor", sum := "fddf64e45362dbdaf17bae91089956857e0e5db8a60be1b01162da366acef895", func := "mergelens/mergelenslaw22.SimilarRefuses", spec := "similarRefuses", inPlace := ["internal/bytealg.CountString", "internal/bytealg.IndexByteString", "internal/bytealg.IndexString", "internal/bytealg.abigen_runtime_cmpstring"], unfollowed := true, recurses := true, named := ["internal/bytealg.MaxLen", "unicode/utf8.first", "unicode/utf8.acceptRanges"], apart := false, laid := [("unicode/utf8.acceptRanges", laid_unicode_utf8_acceptRanges), ("unicode/utf8.first", laid_unicode_utf8_first)], narrowed := true }
def SimilarRefusesUptoSaid : Prop := similarRefusesUptoRow.holds Tryd.pinned (OpenSpec.upto similarRefusesSpec)

/-- 'mergelenslaw22.SimilarPairs', WHERE WHAT IT READS IS OF BULK AT MOST 1048576: true; the input reads as it did. -/
def similarPairsUptoRow : OpenClaim := { program := "ytbpbcfiodckhjaadoor", sum := "fddf64e45362dbdaf17bae91089956857e0e5db8a60be1b01162da366acef895", func := "mergelens/mergelenslaw22.SimilarPairs", spec := "similarPairs", inPlace := ["internal/bytealg.IndexByteString", "internal/bytealg.IndexString", "internal/bytealg.CountString", "internal/bytealg.abigen_runtime_cmpstring"], unfollowed := true, recurses := true, named := ["internal/bytealg.MaxLen", "unicode/utf8.first", "unicode/utf8.acceptRanges"], apart := false, laid := [("unicode/utf8.acceptRanges", laid_unicode_utf8_acceptRanges), ("unicode/utf8.first", laid_unicode_utf8_first)], narrowed := true }
def SimilarPairsUptoSaid : Prop := similarPairsUptoRow.holds Tryd.pinned (OpenSpec.upto similarPairsSpec)

/-- 'mergelenslaw21.TreeRestores', WHERE WHAT IT READS IS OF BULK AT MOST 1048576: true; the input reads as it did. -/
def treeRestoresUptoRow : OpenClaim := { program := "ytbpbcfiodckhjaadoor", sum := "fddf64e45362dbdaf17bae91089956857e0e5db8a60be1b01162da366acef895", func := "mergelens/mergelenslaw21.TreeRestores", spec := "treeRestores", inPlace := ["internal/bytealg.IndexByteString", "internal/bytealg.IndexString", "internal/bytealg.CountString", "internal/bytealg.abigen_runtime_cmpstring"], unfollowed := true, recurses := true, named := ["internal/bytealg.MaxLen", "unicode/utf8.first", "unicode/utf8.acceptRanges"], apart := false, laid := [("unicode/utf8.acceptRanges", laid_unicode_utf8_acceptRanges), ("unicode/utf8.first", laid_unicode_utf8_first)], narrowed := true }
def TreeRestoresUptoSaid : Prop := treeRestoresUptoRow.holds Tryd.pinned (OpenSpec.upto treeRestoresSpec)

/-- 'mergelenslaw21.TreeOrder', WHERE WHAT IT READS IS OF BULK AT MOST 1048576: true; the input reads as it did. -/
def treeOrderUptoRow : OpenClaim := { program := "ytbpbcfiodckhjaadoor", sum := "fddf64e45362dbdaf17bae91089956857e0e5db8a60be1b01162da366acef895", func := "mergelens/mergelenslaw21.TreeOrder", spec := "treeOrder", inPlace := ["internal/bytealg.IndexByteString", "internal/bytealg.IndexString", "internal/bytealg.CountString", "internal/bytealg.abigen_runtime_cmpstring"], unfollowed := true, recurses := true, named := ["internal/bytealg.MaxLen", "unicode/utf8.first", "unicode/utf8.acceptRanges"], apart := false, laid := [("unicode/utf8.acceptRanges", laid_unicode_utf8_acceptRanges), ("unicode/utf8.first", laid_unicode_utf8_first)], narrowed := true }
def TreeOrderUptoSaid : Prop := treeOrderUptoRow.holds Tryd.pinned (OpenSpec.upto treeOrderSpec)

end Rows
end Go.Proofs.YtbpbcfiodckhjaaDoor
