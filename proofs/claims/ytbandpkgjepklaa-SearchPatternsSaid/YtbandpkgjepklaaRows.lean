/-
  No cell of these rows narrows 'for every input' (looked for: loops, veiled, ifaces, maps, wideKeys, modest, calm, conditions, laid).
  DERIVED. THE GIVEN ROWS OF THIS SEAT. 7 by the template 'for every input the law returns true; each argument reads behind the call as it read before'; 0 by the template 'total and deterministic' (their statements: YtbandpkgjepklaaTotals.lean).
  GIVEN WITH THE SEED: the statements are not yours to turn. If you find one false, say at which input.
  Laid BY PROGRAM, IN A SANDBOX (cutbox-rows.mjs): the forced cells as the released guide's own fill.sh prints them over the translation faf46074d149911f… (all of the seat's roots in one cut). By AI agents, Wed Nov 11 2026. No macro, syntax, notation, axiom, sorry.
-/
import Derived.Test.YtbandpkgjepklaaChecked
import GoSem.Claim
import GoSem.ClaimJoined
import GoSem.ClaimMapViews
import Derived.JoinedTies
import Derived.KernelRfl
namespace Go.Proofs.Ytbandpkgjepklaa
/- THE CELL 'sum', in the pinned program and in every row, IS THE sha256 OF THE DUMP (.gsa) THAT YtbandpkgjepklaaProg.lean LOADS. Nothing in Lean hashes anything: it is a label: what it is worth is what the hold of that sum in a sandbox is worth. -/
noncomputable def Try.pinned : Pinned := { name := "ytbandpkgjepklaa", sum := "faf46074d149911f5fe1d3f199b519af5a7fb60e0d2bcf0412cfdd00fed5ce23", checked := Try.checked }
namespace Rows
def none {H : Type} : Left H := { results := [], args := [] }

/-- 'mergelenslaw04.RegexParses': WHATEVER THE INPUT: true; the input reads as it did. -/
def regexParsesSpec : ChangeSpec := { name := "regexParses", fn := fun _ => fun
  | [d1, d2, d3, d4, d5] => { results := [.lit (.bool true)], args := [d1, d2, d3, d4, d5] }
  | _ => none }
def regexParsesRow : OpenClaim := { program := "ytbandpkgjepklaa", sum := "faf46074d149911f5fe1d3f199b519af5a7fb60e0d2bcf0412cfdd00fed5ce23", func := "mergelens/mergelenslaw04.RegexParses", spec := "regexParses", inPlace := ["internal/bytealg.IndexByteString", "internal/bytealg.IndexString"], unfollowed := true, recurses := true, named := ["internal/bytealg.MaxLen"], apart := false }
def RegexParsesSaid : Prop := regexParsesRow.holds Try.pinned (OpenSpec.ofChange regexParsesSpec)

/-- ITS FALSE NEIGHBOUR: 'it returns false'. Refute it at one input. -/
def regexParsesWrong : ChangeSpec := { name := "regexParses", fn := fun _ => fun
  | [d1, d2, d3, d4, d5] => { results := [.lit (.bool false)], args := [d1, d2, d3, d4, d5] }
  | _ => none }
def RegexParsesWrongFalsely : Prop := regexParsesRow.holds Try.pinned (OpenSpec.ofChange regexParsesWrong)

/-- 'mergelenslaw04.RegexLimits': WHATEVER THE INPUT: true; the input reads as it did. -/
def regexLimitsSpec : ChangeSpec := { name := "regexLimits", fn := fun _ => fun
  | [d1, d2] => { results := [.lit (.bool true)], args := [d1, d2] }
  | _ => none }
def regexLimitsRow : OpenClaim := { program := "ytbandpkgjepklaa", sum := "faf46074d149911f5fe1d3f199b519af5a7fb60e0d2bcf0412cfdd00fed5ce23", func := "mergelens/mergelenslaw04.RegexLimits", spec := "regexLimits", inPlace := ["internal/bytealg.IndexByteString", "internal/bytealg.IndexString"], unfollowed := true, recurses := true, named := ["internal/bytealg.MaxLen"], apart := false }
def RegexLimitsSaid : Prop := regexLimitsRow.holds Try.pinned (OpenSpec.ofChange regexLimitsSpec)

/-- ITS FALSE NEIGHBOUR: 'it returns false'. Refute it at one input. -/
def regexLimitsWrong : ChangeSpec := { name := "regexLimits", fn := fun _ => fun
  | [d1, d2] => { results := [.lit (.bool false)], args := [d1, d2] }
  | _ => none }
def RegexLimitsWrongFalsely : Prop := regexLimitsRow.holds Try.pinned (OpenSpec.ofChange regexLimitsWrong)

/-- 'mergelenslaw04.RegexAny': WHATEVER THE INPUT: true; the input reads as it did. -/
def regexAnySpec : ChangeSpec := { name := "regexAny", fn := fun _ => fun
  | [d] => { results := [.lit (.bool true)], args := [d] }
  | _ => none }
def regexAnyRow : OpenClaim := { program := "ytbandpkgjepklaa", sum := "faf46074d149911f5fe1d3f199b519af5a7fb60e0d2bcf0412cfdd00fed5ce23", func := "mergelens/mergelenslaw04.RegexAny", spec := "regexAny", inPlace := ["internal/bytealg.IndexByteString", "internal/bytealg.IndexString", "internal/abi.NoEscape"], unfollowed := true, recurses := true, named := ["internal/bytealg.MaxLen"], apart := false }
def RegexAnySaid : Prop := regexAnyRow.holds Try.pinned (OpenSpec.ofChange regexAnySpec)

/-- ITS FALSE NEIGHBOUR: 'it returns false'. Refute it at one input. -/
def regexAnyWrong : ChangeSpec := { name := "regexAny", fn := fun _ => fun
  | [d] => { results := [.lit (.bool false)], args := [d] }
  | _ => none }
def RegexAnyWrongFalsely : Prop := regexAnyRow.holds Try.pinned (OpenSpec.ofChange regexAnyWrong)

/-- 'mergelenslaw04.RegexValid': WHATEVER THE INPUT: true; the input reads as it did. -/
def regexValidSpec : ChangeSpec := { name := "regexValid", fn := fun _ => fun
  | [d1, d2] => { results := [.lit (.bool true)], args := [d1, d2] }
  | _ => none }
def regexValidRow : OpenClaim := { program := "ytbandpkgjepklaa", sum := "faf46074d149911f5fe1d3f199b519af5a7fb60e0d2bcf0412cfdd00fed5ce23", func := "mergelens/mergelenslaw04.RegexValid", spec := "regexValid", inPlace := ["internal/bytealg.IndexByteString", "internal/bytealg.IndexString"], unfollowed := true, recurses := true, named := ["internal/bytealg.MaxLen"], apart := false }
def RegexValidSaid : Prop := regexValidRow.holds Try.pinned (OpenSpec.ofChange regexValidSpec)

/-- ITS FALSE NEIGHBOUR: 'it returns false'. Refute it at one input. -/
def regexValidWrong : ChangeSpec := { name := "regexValid", fn := fun _ => fun
  | [d1, d2] => { results := [.lit (.bool false)], args := [d1, d2] }
  | _ => none }
def RegexValidWrongFalsely : Prop := regexValidRow.holds Try.pinned (OpenSpec.ofChange regexValidWrong)

/-- 'mergelenslaw04.RegexLiteral': WHATEVER THE INPUT: true; the input reads as it did. -/
def regexLiteralSpec : ChangeSpec := { name := "regexLiteral", fn := fun _ => fun
  | [d] => { results := [.lit (.bool true)], args := [d] }
  | _ => none }
def regexLiteralRow : OpenClaim := { program := "ytbandpkgjepklaa", sum := "faf46074d149911f5fe1d3f199b519af5a7fb60e0d2bcf0412cfdd00fed5ce23", func := "mergelens/mergelenslaw04.RegexLiteral", spec := "regexLiteral", inPlace := ["internal/bytealg.IndexByteString", "internal/bytealg.IndexString", "internal/abi.NoEscape"], unfollowed := true, recurses := true, named := ["internal/bytealg.MaxLen"], apart := false }
def RegexLiteralSaid : Prop := regexLiteralRow.holds Try.pinned (OpenSpec.ofChange regexLiteralSpec)

/-- ITS FALSE NEIGHBOUR: 'it returns false'. Refute it at one input. -/
def regexLiteralWrong : ChangeSpec := { name := "regexLiteral", fn := fun _ => fun
  | [d] => { results := [.lit (.bool false)], args := [d] }
  | _ => none }
def RegexLiteralWrongFalsely : Prop := regexLiteralRow.holds Try.pinned (OpenSpec.ofChange regexLiteralWrong)

/-- 'mergelenslaw04.RegexChecks': WHATEVER THE INPUT: true; the input reads as it did. -/
def regexChecksSpec : ChangeSpec := { name := "regexChecks", fn := fun _ => fun
  | [d1, d2, d3, d4, d5, d6] => { results := [.lit (.bool true)], args := [d1, d2, d3, d4, d5, d6] }
  | _ => none }
def regexChecksRow : OpenClaim := { program := "ytbandpkgjepklaa", sum := "faf46074d149911f5fe1d3f199b519af5a7fb60e0d2bcf0412cfdd00fed5ce23", func := "mergelens/mergelenslaw04.RegexChecks", spec := "regexChecks", inPlace := ["internal/bytealg.IndexByteString", "internal/bytealg.IndexString"], unfollowed := true, recurses := true, named := ["internal/bytealg.MaxLen"], apart := false }
def RegexChecksSaid : Prop := regexChecksRow.holds Try.pinned (OpenSpec.ofChange regexChecksSpec)

/-- ITS FALSE NEIGHBOUR: 'it returns false'. Refute it at one input. -/
def regexChecksWrong : ChangeSpec := { name := "regexChecks", fn := fun _ => fun
  | [d1, d2, d3, d4, d5, d6] => { results := [.lit (.bool false)], args := [d1, d2, d3, d4, d5, d6] }
  | _ => none }
def RegexChecksWrongFalsely : Prop := regexChecksRow.holds Try.pinned (OpenSpec.ofChange regexChecksWrong)

/-- 'mergelenslaw06.SearchPatterns': WHATEVER THE INPUT: true; the input reads as it did. -/
def searchPatternsSpec : ChangeSpec := { name := "searchPatterns", fn := fun _ => fun
  | [d1, d2, d3] => { results := [.lit (.bool true)], args := [d1, d2, d3] }
  | _ => none }
def searchPatternsRow : OpenClaim := { program := "ytbandpkgjepklaa", sum := "faf46074d149911f5fe1d3f199b519af5a7fb60e0d2bcf0412cfdd00fed5ce23", func := "mergelens/mergelenslaw06.SearchPatterns", spec := "searchPatterns", inPlace := ["internal/bytealg.IndexByteString", "internal/bytealg.IndexString"], unfollowed := true, recurses := true, named := ["internal/bytealg.MaxLen"], apart := false }
def SearchPatternsSaid : Prop := searchPatternsRow.holds Try.pinned (OpenSpec.ofChange searchPatternsSpec)

/-- ITS FALSE NEIGHBOUR: 'it returns false'. Refute it at one input. -/
def searchPatternsWrong : ChangeSpec := { name := "searchPatterns", fn := fun _ => fun
  | [d1, d2, d3] => { results := [.lit (.bool false)], args := [d1, d2, d3] }
  | _ => none }
def SearchPatternsWrongFalsely : Prop := searchPatternsRow.holds Try.pinned (OpenSpec.ofChange searchPatternsWrong)

/- THE SECOND FORM. 'bulk': how many values and letters a reading holds, each counted each time it is reached (what is shared counts as often as it is met; a slice's spare places count too). A statement '..UptoSaid' is the law's where the arguments, and the package variables that the reading takes, are together of bulk at most 1048576: NARROWER than '..Said'. Prove '..Said' where nothing that the law and all that it calls make is longer than what came in: it says more and counts as full. Else prove '..UptoSaid'. A law counts once. -/
mutual
def uptoBulk {H : Type} : DataW H → Nat
  | .lit (.string bytes) => bytes.length + 1
  | .lit _ => 1
  | .nil => 1
  | .ptr d => uptoBulk d + 1
  | .slice elems spare => uptoBulkAll elems + uptoBulkAll spare + 1
  | .agg parts => uptoBulkAll parts + 1
  | .iface _ d => uptoBulk d + 1
  | .map entries => uptoBulkEntries entries + 1
  | .held _ => 1
def uptoBulkAll {H : Type} : List (DataW H) → Nat
  | [] => 0
  | d :: r => uptoBulk d + uptoBulkAll r
def uptoBulkEntries {H : Type} : List (Lit × DataW H) → Nat
  | [] => 0
  | x :: r => uptoBulkEntry x + uptoBulkEntries r
def uptoBulkEntry {H : Type} : Lit × DataW H → Nat
  | (.string bytes, d) => bytes.length + uptoBulk d + 1
  | (_, d) => uptoBulk d + 1
 end
def uptoSmall : (H : Type) → List (DataW H) → Bool := fun _ ds => decide (uptoBulkAll ds ≤ 1048576)
def OpenSpec.upto (s : _root_.Go.ChangeSpec) : _root_.Go.OpenSpec := { _root_.Go.OpenSpec.ofChange s with cond := some uptoSmall }

/-- 'mergelenslaw04.RegexParses', WHERE WHAT IT READS IS OF BULK AT MOST 1048576: true; the input reads as it did. -/
def regexParsesUptoRow : OpenClaim := { program := "ytbandpkgjepklaa", sum := "faf46074d149911f5fe1d3f199b519af5a7fb60e0d2bcf0412cfdd00fed5ce23", func := "mergelens/mergelenslaw04.RegexParses", spec := "regexParses", inPlace := ["internal/bytealg.IndexByteString", "internal/bytealg.IndexString"], unfollowed := true, recurses := true, named := ["internal/bytealg.MaxLen"], apart := false, narrowed := true }
def RegexParsesUptoSaid : Prop := regexParsesUptoRow.holds Try.pinned (OpenSpec.upto regexParsesSpec)

/-- 'mergelenslaw04.RegexLimits', WHERE WHAT IT READS IS OF BULK AT MOST 1048576: true; the input reads as it did. -/
def regexLimitsUptoRow : OpenClaim := { program := "ytbandpkgjepklaa", sum := "faf46074d149911f5fe1d3f199b519af5a7fb60e0d2bcf0412cfdd00fed5ce23", func := "mergelens/mergelenslaw04.RegexLimits", spec := "regexLimits", inPlace := ["internal/bytealg.IndexByteString", "internal/bytealg.IndexString"], unfollowed := true, recurses := true, named := ["internal/bytealg.MaxLen"], apart := false, narrowed := true }
def RegexLimitsUptoSaid : Prop := regexLimitsUptoRow.holds Try.pinned (OpenSpec.upto regexLimitsSpec)

/-- 'mergelenslaw04.RegexAny', WHERE WHAT IT READS IS OF BULK AT MOST 1048576: true; the input reads as it did. -/
def regexAnyUptoRow : OpenClaim := { program := "ytbandpkgjepklaa", sum := "faf46074d149911f5fe1d3f199b519af5a7fb60e0d2bcf0412cfdd00fed5ce23", func := "mergelens/mergelenslaw04.RegexAny", spec := "regexAny", inPlace := ["internal/bytealg.IndexByteString", "internal/bytealg.IndexString", "internal/abi.NoEscape"], unfollowed := true, recurses := true, named := ["internal/bytealg.MaxLen"], apart := false, narrowed := true }
def RegexAnyUptoSaid : Prop := regexAnyUptoRow.holds Try.pinned (OpenSpec.upto regexAnySpec)

/-- 'mergelenslaw04.RegexValid', WHERE WHAT IT READS IS OF BULK AT MOST 1048576: true; the input reads as it did. -/
def regexValidUptoRow : OpenClaim := { program := "ytbandpkgjepklaa", sum := "faf46074d149911f5fe1d3f199b519af5a7fb60e0d2bcf0412cfdd00fed5ce23", func := "mergelens/mergelenslaw04.RegexValid", spec := "regexValid", inPlace := ["internal/bytealg.IndexByteString", "internal/bytealg.IndexString"], unfollowed := true, recurses := true, named := ["internal/bytealg.MaxLen"], apart := false, narrowed := true }
def RegexValidUptoSaid : Prop := regexValidUptoRow.holds Try.pinned (OpenSpec.upto regexValidSpec)

/-- 'mergelenslaw04.RegexLiteral', WHERE WHAT IT READS IS OF BULK AT MOST 1048576: true; the input reads as it did. -/
def regexLiteralUptoRow : OpenClaim := { program := "ytbandpkgjepklaa", sum := "faf46074d149911f5fe1d3f199b519af5a7fb60e0d2bcf0412cfdd00fed5ce23", func := "mergelens/mergelenslaw04.RegexLiteral", spec := "regexLiteral", inPlace := ["internal/bytealg.IndexByteString", "internal/bytealg.IndexString", "internal/abi.NoEscape"], unfollowed := true, recurses := true, named := ["internal/bytealg.MaxLen"], apart := false, narrowed := true }
def RegexLiteralUptoSaid : Prop := regexLiteralUptoRow.holds Try.pinned (OpenSpec.upto regexLiteralSpec)

/-- 'mergelenslaw04.RegexChecks', WHERE WHAT IT READS IS OF BULK AT MOST 1048576: true; the input reads as it did. -/
def regexChecksUptoRow : OpenClaim := { program := "ytbandpkgjepklaa", sum := "faf46074d149911f5fe1d3f199b519af5a7fb60e0d2bcf0412cfdd00fed5ce23", func := "mergelens/mergelenslaw04.RegexChecks", spec := "regexChecks", inPlace := ["internal/bytealg.IndexByteString", "internal/bytealg.IndexString"], unfollowed := true, recurses := true, named := ["internal/bytealg.MaxLen"], apart := false, narrowed := true }
def RegexChecksUptoSaid : Prop := regexChecksUptoRow.holds Try.pinned (OpenSpec.upto regexChecksSpec)

/-- 'mergelenslaw06.SearchPatterns', WHERE WHAT IT READS IS OF BULK AT MOST 1048576: true; the input reads as it did. -/
def searchPatternsUptoRow : OpenClaim := { program := "ytbandpkgjepklaa", sum := "faf46074d149911f5fe1d3f199b519af5a7fb60e0d2bcf0412cfdd00fed5ce23", func := "mergelens/mergelenslaw06.SearchPatterns", spec := "searchPatterns", inPlace := ["internal/bytealg.IndexByteString", "internal/bytealg.IndexString"], unfollowed := true, recurses := true, named := ["internal/bytealg.MaxLen"], apart := false, narrowed := true }
def SearchPatternsUptoSaid : Prop := searchPatternsUptoRow.holds Try.pinned (OpenSpec.upto searchPatternsSpec)

end Rows
end Go.Proofs.Ytbandpkgjepklaa
