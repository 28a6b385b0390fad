/-
  NARROWER THAN 'FOR EVERY INPUT', by the rows' own cells (each row's printed sentence says how): ScanNumbers: laid · ScanReads: laid · ScanQuotes: laid · ScanQuoteReads: laid · ScanRanges: laid · ScanRangeReads: laid · ScanWords: laid.
  DERIVED. THE GIVEN ROWS OF THIS SEAT. 7 by the template 'for every input the law returns true; each argument reads behind the call as it read before'; 0 by the template 'total and deterministic' (their statements: YtbandpkgjepklaaDoorTotals.lean).
  GIVEN WITH THE SEED: the statements are not yours to turn. If you find one false, say at which input.
  Laid BY PROGRAM, IN A SANDBOX (cutbox-rows.mjs): the forced cells as the released guide's own fill.sh prints them over the translation ba9b586361a8ab95… (all of the seat's roots in one cut). By AI agents, Wed Nov 11 2026. No macro, syntax, notation, axiom, sorry.
-/
import Derived.Test.YtbandpkgjepklaaDoorChecked
import GoSem.Claim
import GoSem.ClaimJoined
import GoSem.ClaimMapViews
import Derived.JoinedTies
import Derived.KernelRfl
namespace Go.Proofs.YtbandpkgjepklaaDoor
/- THE CELL 'sum', in the pinned program and in every row, IS THE sha256 OF THE DUMP (.gsa) THAT YtbandpkgjepklaaDoorProg.lean LOADS. Nothing in Lean hashes anything: it is a label: what it is worth is what the hold of that sum in a sandbox is worth. -/
noncomputable def Tryd.pinned : Pinned := { name := "ytbandpkgjepklaadoor", sum := "ba9b586361a8ab953e428aeba385d951a621e9a0f93bde45b3ac43a3ff2168cc", checked := Tryd.checked }
namespace Rows
def none {H : Type} : Left H := { results := [], args := [] }

/- WHAT THE LISTED PACKAGE-LEVEL VARIABLES READ AS WHEN THE CALL BEGINS. Each datum BY PROGRAM (the guide's laid-datum.mjs) off the statement by which the dump's own 'gosem.cut.vars' lays the variable. In a bare row this is a premise. The card (YtbandpkgjepklaaDoorCards.lean) ties it to the program's text. -/
def laid_math_bits_deBruijn32tab {H : Type} : DataW H := .agg [.lit (.int .u8 0), .lit (.int .u8 1), .lit (.int .u8 28), .lit (.int .u8 2), .lit (.int .u8 29), .lit (.int .u8 14), .lit (.int .u8 24), .lit (.int .u8 3), .lit (.int .u8 30), .lit (.int .u8 22), .lit (.int .u8 20), .lit (.int .u8 15), .lit (.int .u8 25), .lit (.int .u8 17), .lit (.int .u8 4), .lit (.int .u8 8), .lit (.int .u8 31), .lit (.int .u8 27), .lit (.int .u8 13), .lit (.int .u8 23), .lit (.int .u8 21), .lit (.int .u8 19), .lit (.int .u8 16), .lit (.int .u8 7), .lit (.int .u8 26), .lit (.int .u8 12), .lit (.int .u8 18), .lit (.int .u8 6), .lit (.int .u8 11), .lit (.int .u8 5), .lit (.int .u8 10), .lit (.int .u8 9)]
def laid_math_bits_deBruijn64tab {H : Type} : DataW H := .agg [.lit (.int .u8 0), .lit (.int .u8 1), .lit (.int .u8 56), .lit (.int .u8 2), .lit (.int .u8 57), .lit (.int .u8 49), .lit (.int .u8 28), .lit (.int .u8 3), .lit (.int .u8 61), .lit (.int .u8 58), .lit (.int .u8 42), .lit (.int .u8 50), .lit (.int .u8 38), .lit (.int .u8 29), .lit (.int .u8 17), .lit (.int .u8 4), .lit (.int .u8 62), .lit (.int .u8 47), .lit (.int .u8 59), .lit (.int .u8 36), .lit (.int .u8 45), .lit (.int .u8 43), .lit (.int .u8 51), .lit (.int .u8 22), .lit (.int .u8 53), .lit (.int .u8 39), .lit (.int .u8 33), .lit (.int .u8 30), .lit (.int .u8 24), .lit (.int .u8 18), .lit (.int .u8 12), .lit (.int .u8 5), .lit (.int .u8 63), .lit (.int .u8 55), .lit (.int .u8 48), .lit (.int .u8 27), .lit (.int .u8 60), .lit (.int .u8 41), .lit (.int .u8 37), .lit (.int .u8 16), .lit (.int .u8 46), .lit (.int .u8 35), .lit (.int .u8 44), .lit (.int .u8 21), .lit (.int .u8 52), .lit (.int .u8 32), .lit (.int .u8 23), .lit (.int .u8 11), .lit (.int .u8 54), .lit (.int .u8 26), .lit (.int .u8 40), .lit (.int .u8 15), .lit (.int .u8 34), .lit (.int .u8 20), .lit (.int .u8 31), .lit (.int .u8 10), .lit (.int .u8 25), .lit (.int .u8 14), .lit (.int .u8 19), .lit (.int .u8 9), .lit (.int .u8 13), .lit (.int .u8 8), .lit (.int .u8 7), .lit (.int .u8 6)]
def laid_internal_strconv_uint64pow10 {H : Type} : DataW H := .agg [.lit (.int .u64 1), .lit (.int .u64 10), .lit (.int .u64 100), .lit (.int .u64 1000), .lit (.int .u64 10000), .lit (.int .u64 100000), .lit (.int .u64 1000000), .lit (.int .u64 10000000), .lit (.int .u64 100000000), .lit (.int .u64 1000000000), .lit (.int .u64 10000000000), .lit (.int .u64 100000000000), .lit (.int .u64 1000000000000), .lit (.int .u64 10000000000000), .lit (.int .u64 100000000000000), .lit (.int .u64 1000000000000000), .lit (.int .u64 10000000000000000), .lit (.int .u64 100000000000000000), .lit (.int .u64 1000000000000000000), .lit (.int .u64 10000000000000000000)]

/-- 'mergelenslaw01.ScanNumbers': WHATEVER THE INPUT: true; the input reads as it did. -/
def scanNumbersSpec : ChangeSpec := { name := "scanNumbers", fn := fun _ => fun
  | [d1, d2, d3] => { results := [.lit (.bool true)], args := [d1, d2, d3] }
  | _ => none }
def scanNumbersRow : OpenClaim := { program := "ytbandpkgjepklaadoor", sum := "ba9b586361a8ab953e428aeba385d951a621e9a0f93bde45b3ac43a3ff2168cc", func := "mergelens/mergelenslaw01.ScanNumbers", spec := "scanNumbers", inPlace := ["internal/abi.NoEscape"], recurses := true, named := ["internal/strconv.uint64pow10", "math/bits.deBruijn32tab", "math/bits.deBruijn64tab"], apart := false, laid := [("math/bits.deBruijn32tab", laid_math_bits_deBruijn32tab), ("math/bits.deBruijn64tab", laid_math_bits_deBruijn64tab), ("internal/strconv.uint64pow10", laid_internal_strconv_uint64pow10)] }
def ScanNumbersSaid : Prop := scanNumbersRow.holds Tryd.pinned (OpenSpec.ofChange scanNumbersSpec)

/-- ITS FALSE NEIGHBOUR: 'it returns false'. Refute it at one input. -/
def scanNumbersWrong : ChangeSpec := { name := "scanNumbers", fn := fun _ => fun
  | [d1, d2, d3] => { results := [.lit (.bool false)], args := [d1, d2, d3] }
  | _ => none }
def ScanNumbersWrongFalsely : Prop := scanNumbersRow.holds Tryd.pinned (OpenSpec.ofChange scanNumbersWrong)

/-- 'mergelenslaw01.ScanReads': WHATEVER THE INPUT: true; the input reads as it did. -/
def scanReadsSpec : ChangeSpec := { name := "scanReads", fn := fun _ => fun
  | [d1, d2, d3] => { results := [.lit (.bool true)], args := [d1, d2, d3] }
  | _ => none }
def scanReadsRow : OpenClaim := { program := "ytbandpkgjepklaadoor", sum := "ba9b586361a8ab953e428aeba385d951a621e9a0f93bde45b3ac43a3ff2168cc", func := "mergelens/mergelenslaw01.ScanReads", spec := "scanReads", inPlace := ["internal/abi.NoEscape"], named := ["internal/strconv.uint64pow10", "math/bits.deBruijn32tab", "math/bits.deBruijn64tab"], apart := false, laid := [("math/bits.deBruijn32tab", laid_math_bits_deBruijn32tab), ("math/bits.deBruijn64tab", laid_math_bits_deBruijn64tab), ("internal/strconv.uint64pow10", laid_internal_strconv_uint64pow10)] }
def ScanReadsSaid : Prop := scanReadsRow.holds Tryd.pinned (OpenSpec.ofChange scanReadsSpec)

/-- ITS FALSE NEIGHBOUR: 'it returns false'. Refute it at one input. -/
def scanReadsWrong : ChangeSpec := { name := "scanReads", fn := fun _ => fun
  | [d1, d2, d3] => { results := [.lit (.bool false)], args := [d1, d2, d3] }
  | _ => none }
def ScanReadsWrongFalsely : Prop := scanReadsRow.holds Tryd.pinned (OpenSpec.ofChange scanReadsWrong)

/-- 'mergelenslaw01.ScanQuotes': WHATEVER THE INPUT: true; the input reads as it did. -/
def scanQuotesSpec : ChangeSpec := { name := "scanQuotes", fn := fun _ => fun
  | [d1, d2, d3] => { results := [.lit (.bool true)], args := [d1, d2, d3] }
  | _ => none }
def scanQuotesRow : OpenClaim := { program := "ytbandpkgjepklaadoor", sum := "ba9b586361a8ab953e428aeba385d951a621e9a0f93bde45b3ac43a3ff2168cc", func := "mergelens/mergelenslaw01.ScanQuotes", spec := "scanQuotes", inPlace := ["internal/abi.NoEscape"], named := ["internal/strconv.uint64pow10", "math/bits.deBruijn32tab", "math/bits.deBruijn64tab"], apart := false, laid := [("math/bits.deBruijn32tab", laid_math_bits_deBruijn32tab), ("math/bits.deBruijn64tab", laid_math_bits_deBruijn64tab), ("internal/strconv.uint64pow10", laid_internal_strconv_uint64pow10)] }
def ScanQuotesSaid : Prop := scanQuotesRow.holds Tryd.pinned (OpenSpec.ofChange scanQuotesSpec)

/-- ITS FALSE NEIGHBOUR: 'it returns false'. Refute it at one input. -/
def scanQuotesWrong : ChangeSpec := { name := "scanQuotes", fn := fun _ => fun
  | [d1, d2, d3] => { results := [.lit (.bool false)], args := [d1, d2, d3] }
  | _ => none }
def ScanQuotesWrongFalsely : Prop := scanQuotesRow.holds Tryd.pinned (OpenSpec.ofChange scanQuotesWrong)

/-- 'mergelenslaw01.ScanQuoteReads': WHATEVER THE INPUT: true; the input reads as it did. -/
def scanQuoteReadsSpec : ChangeSpec := { name := "scanQuoteReads", fn := fun _ => fun
  | [d1, d2] => { results := [.lit (.bool true)], args := [d1, d2] }
  | _ => none }
def scanQuoteReadsRow : OpenClaim := { program := "ytbandpkgjepklaadoor", sum := "ba9b586361a8ab953e428aeba385d951a621e9a0f93bde45b3ac43a3ff2168cc", func := "mergelens/mergelenslaw01.ScanQuoteReads", spec := "scanQuoteReads", inPlace := ["internal/abi.NoEscape"], named := ["internal/strconv.uint64pow10", "math/bits.deBruijn32tab", "math/bits.deBruijn64tab"], apart := false, laid := [("math/bits.deBruijn32tab", laid_math_bits_deBruijn32tab), ("math/bits.deBruijn64tab", laid_math_bits_deBruijn64tab), ("internal/strconv.uint64pow10", laid_internal_strconv_uint64pow10)] }
def ScanQuoteReadsSaid : Prop := scanQuoteReadsRow.holds Tryd.pinned (OpenSpec.ofChange scanQuoteReadsSpec)

/-- ITS FALSE NEIGHBOUR: 'it returns false'. Refute it at one input. -/
def scanQuoteReadsWrong : ChangeSpec := { name := "scanQuoteReads", fn := fun _ => fun
  | [d1, d2] => { results := [.lit (.bool false)], args := [d1, d2] }
  | _ => none }
def ScanQuoteReadsWrongFalsely : Prop := scanQuoteReadsRow.holds Tryd.pinned (OpenSpec.ofChange scanQuoteReadsWrong)

/-- 'mergelenslaw01.ScanRanges': WHATEVER THE INPUT: true; the input reads as it did. -/
def scanRangesSpec : ChangeSpec := { name := "scanRanges", fn := fun _ => fun
  | [d1, d2, d3, d4] => { results := [.lit (.bool true)], args := [d1, d2, d3, d4] }
  | _ => none }
def scanRangesRow : OpenClaim := { program := "ytbandpkgjepklaadoor", sum := "ba9b586361a8ab953e428aeba385d951a621e9a0f93bde45b3ac43a3ff2168cc", func := "mergelens/mergelenslaw01.ScanRanges", spec := "scanRanges", inPlace := ["internal/abi.NoEscape"], recurses := true, named := ["internal/strconv.uint64pow10", "math/bits.deBruijn32tab", "math/bits.deBruijn64tab"], apart := false, laid := [("math/bits.deBruijn32tab", laid_math_bits_deBruijn32tab), ("math/bits.deBruijn64tab", laid_math_bits_deBruijn64tab), ("internal/strconv.uint64pow10", laid_internal_strconv_uint64pow10)] }
def ScanRangesSaid : Prop := scanRangesRow.holds Tryd.pinned (OpenSpec.ofChange scanRangesSpec)

/-- ITS FALSE NEIGHBOUR: 'it returns false'. Refute it at one input. -/
def scanRangesWrong : ChangeSpec := { name := "scanRanges", fn := fun _ => fun
  | [d1, d2, d3, d4] => { results := [.lit (.bool false)], args := [d1, d2, d3, d4] }
  | _ => none }
def ScanRangesWrongFalsely : Prop := scanRangesRow.holds Tryd.pinned (OpenSpec.ofChange scanRangesWrong)

/-- 'mergelenslaw01.ScanRangeReads': WHATEVER THE INPUT: true; the input reads as it did. -/
def scanRangeReadsSpec : ChangeSpec := { name := "scanRangeReads", fn := fun _ => fun
  | [d1, d2, d3] => { results := [.lit (.bool true)], args := [d1, d2, d3] }
  | _ => none }
def scanRangeReadsRow : OpenClaim := { program := "ytbandpkgjepklaadoor", sum := "ba9b586361a8ab953e428aeba385d951a621e9a0f93bde45b3ac43a3ff2168cc", func := "mergelens/mergelenslaw01.ScanRangeReads", spec := "scanRangeReads", inPlace := ["internal/abi.NoEscape"], named := ["internal/strconv.uint64pow10", "math/bits.deBruijn32tab", "math/bits.deBruijn64tab"], apart := false, laid := [("math/bits.deBruijn32tab", laid_math_bits_deBruijn32tab), ("math/bits.deBruijn64tab", laid_math_bits_deBruijn64tab), ("internal/strconv.uint64pow10", laid_internal_strconv_uint64pow10)] }
def ScanRangeReadsSaid : Prop := scanRangeReadsRow.holds Tryd.pinned (OpenSpec.ofChange scanRangeReadsSpec)

/-- ITS FALSE NEIGHBOUR: 'it returns false'. Refute it at one input. -/
def scanRangeReadsWrong : ChangeSpec := { name := "scanRangeReads", fn := fun _ => fun
  | [d1, d2, d3] => { results := [.lit (.bool false)], args := [d1, d2, d3] }
  | _ => none }
def ScanRangeReadsWrongFalsely : Prop := scanRangeReadsRow.holds Tryd.pinned (OpenSpec.ofChange scanRangeReadsWrong)

/-- 'mergelenslaw01.ScanWords': WHATEVER THE INPUT: true; the input reads as it did. -/
def scanWordsSpec : ChangeSpec := { name := "scanWords", fn := fun _ => fun
  | [d1, d2] => { results := [.lit (.bool true)], args := [d1, d2] }
  | _ => none }
def scanWordsRow : OpenClaim := { program := "ytbandpkgjepklaadoor", sum := "ba9b586361a8ab953e428aeba385d951a621e9a0f93bde45b3ac43a3ff2168cc", func := "mergelens/mergelenslaw01.ScanWords", spec := "scanWords", inPlace := ["internal/abi.NoEscape"], unfollowed := true, recurses := true, named := ["internal/strconv.uint64pow10", "math/bits.deBruijn32tab", "math/bits.deBruijn64tab"], apart := false, laid := [("math/bits.deBruijn32tab", laid_math_bits_deBruijn32tab), ("math/bits.deBruijn64tab", laid_math_bits_deBruijn64tab), ("internal/strconv.uint64pow10", laid_internal_strconv_uint64pow10)] }
def ScanWordsSaid : Prop := scanWordsRow.holds Tryd.pinned (OpenSpec.ofChange scanWordsSpec)

/-- ITS FALSE NEIGHBOUR: 'it returns false'. Refute it at one input. -/
def scanWordsWrong : ChangeSpec := { name := "scanWords", fn := fun _ => fun
  | [d1, d2] => { results := [.lit (.bool false)], args := [d1, d2] }
  | _ => none }
def ScanWordsWrongFalsely : Prop := scanWordsRow.holds Tryd.pinned (OpenSpec.ofChange scanWordsWrong)

/- THE SECOND FORM. 'bulk': how many values and letters a reading holds, each counted each time it is reached (what is shared counts as often as it is met; a slice's spare places count too). A statement '..UptoSaid' is the law's where the arguments, and the package variables that the reading takes, are together of bulk at most 1048576: NARROWER than '..Said'. Prove '..Said' where nothing that the law and all that it calls make is longer than what came in: it says more and counts as full. Else prove '..UptoSaid'. A law counts once. -/
mutual
def uptoBulk {H : Type} : DataW H → Nat
  | .lit (.string bytes) => bytes.length + 1
  | .lit _ => 1
  | .nil => 1
  | .ptr d => uptoBulk d + 1
  | .slice elems spare => uptoBulkAll elems + uptoBulkAll spare + 1
  | .agg parts => uptoBulkAll parts + 1
  | .iface _ d => uptoBulk d + 1
  | .map entries => uptoBulkEntries entries + 1
  | .held _ => 1
def uptoBulkAll {H : Type} : List (DataW H) → Nat
  | [] => 0
  | d :: r => uptoBulk d + uptoBulkAll r
def uptoBulkEntries {H : Type} : List (Lit × DataW H) → Nat
  | [] => 0
  | x :: r => uptoBulkEntry x + uptoBulkEntries r
def uptoBulkEntry {H : Type} : Lit × DataW H → Nat
  | (.string bytes, d) => bytes.length + uptoBulk d + 1
  | (_, d) => uptoBulk d + 1
 end
def uptoSmall : (H : Type) → List (DataW H) → Bool := fun _ ds => decide (uptoBulkAll ds ≤ 1048576)
def OpenSpec.upto (s : _root_.Go.ChangeSpec) : _root_.Go.OpenSpec := { _root_.Go.OpenSpec.ofChange s with cond := some uptoSmall }

/-- 'mergelenslaw01.ScanNumbers', WHERE WHAT IT READS IS OF BULK AT MOST 1048576: true; the input reads as it did. -/
def scanNumbersUptoRow : OpenClaim := { program := "ytbandpkgjepklaadoor", sum := "ba9b586361a8ab953e428aeba385d951a621e9a0f93bde45b3ac43a3ff2168cc", func := "mergelens/mergelenslaw01.ScanNumbers", spec := "scanNumbers", inPlace := ["internal/abi.NoEscape"], recurses := true, named := ["internal/strconv.uint64pow10", "math/bits.deBruijn32tab", "math/bits.deBruijn64tab"], apart := false, laid := [("math/bits.deBruijn32tab", laid_math_bits_deBruijn32tab), ("math/bits.deBruijn64tab", laid_math_bits_deBruijn64tab), ("internal/strconv.uint64pow10", laid_internal_strconv_uint64pow10)], narrowed := true }
def ScanNumbersUptoSaid : Prop := scanNumbersUptoRow.holds Tryd.pinned (OpenSpec.upto scanNumbersSpec)

/-- 'mergelenslaw01.ScanReads', WHERE WHAT IT READS IS OF BULK AT MOST 1048576: true; the input reads as it did. -/
def scanReadsUptoRow : OpenClaim := { program := "ytbandpkgjepklaadoor", sum := "ba9b586361a8ab953e428aeba385d951a621e9a0f93bde45b3ac43a3ff2168cc", func := "mergelens/mergelenslaw01.ScanReads", spec := "scanReads", inPlace := ["internal/abi.NoEscape"], named := ["internal/strconv.uint64pow10", "math/bits.deBruijn32tab", "math/bits.deBruijn64tab"], apart := false, laid := [("math/bits.deBruijn32tab", laid_math_bits_deBruijn32tab), ("math/bits.deBruijn64tab", laid_math_bits_deBruijn64tab), ("internal/strconv.uint64pow10", laid_internal_strconv_uint64pow10)], narrowed := true }
def ScanReadsUptoSaid : Prop := scanReadsUptoRow.holds Tryd.pinned (OpenSpec.upto scanReadsSpec)

/-- 'mergelenslaw01.ScanQuotes', WHERE WHAT IT READS IS OF BULK AT MOST 1048576: true; the input reads as it did. -/
def scanQuotesUptoRow : OpenClaim := { program := "ytbandpkgjepklaadoor", sum := "ba9b586361a8ab953e428aeba385d951a621e9a0f93bde45b3ac43a3ff2168cc", func := "mergelens/mergelenslaw01.ScanQuotes", spec := "scanQuotes", inPlace := ["internal/abi.NoEscape"], named := ["internal/strconv.uint64pow10", "math/bits.deBruijn32tab", "math/bits.deBruijn64tab"], apart := false, laid := [("math/bits.deBruijn32tab", laid_math_bits_deBruijn32tab), ("math/bits.deBruijn64tab", laid_math_bits_deBruijn64tab), ("internal/strconv.uint64pow10", laid_internal_strconv_uint64pow10)], narrowed := true }
def ScanQuotesUptoSaid : Prop := scanQuotesUptoRow.holds Tryd.pinned (OpenSpec.upto scanQuotesSpec)

/-- 'mergelenslaw01.ScanQuoteReads', WHERE WHAT IT READS IS OF BULK AT MOST 1048576: true; the input reads as it did. -/
def scanQuoteReadsUptoRow : OpenClaim := { program := "ytbandpkgjepklaadoor", sum := "ba9b586361a8ab953e428aeba385d951a621e9a0f93bde45b3ac43a3ff2168cc", func := "mergelens/mergelenslaw01.ScanQuoteReads", spec := "scanQuoteReads", inPlace := ["internal/abi.NoEscape"], named := ["internal/strconv.uint64pow10", "math/bits.deBruijn32tab", "math/bits.deBruijn64tab"], apart := false, laid := [("math/bits.deBruijn32tab", laid_math_bits_deBruijn32tab), ("math/bits.deBruijn64tab", laid_math_bits_deBruijn64tab), ("internal/strconv.uint64pow10", laid_internal_strconv_uint64pow10)], narrowed := true }
def ScanQuoteReadsUptoSaid : Prop := scanQuoteReadsUptoRow.holds Tryd.pinned (OpenSpec.upto scanQuoteReadsSpec)

/-- 'mergelenslaw01.ScanRanges', WHERE WHAT IT READS IS OF BULK AT MOST 1048576: true; the input reads as it did. -/
def scanRangesUptoRow : OpenClaim := { program := "ytbandpkgjepklaadoor", sum := "ba9b586361a8ab953e428aeba385d951a621e9a0f93bde45b3ac43a3ff2168cc", func := "mergelens/mergelenslaw01.ScanRanges", spec := "scanRanges", inPlace := ["internal/abi.NoEscape"], recurses := true, named := ["internal/strconv.uint64pow10", "math/bits.deBruijn32tab", "math/bits.deBruijn64tab"], apart := false, laid := [("math/bits.deBruijn32tab", laid_math_bits_deBruijn32tab), ("math/bits.deBruijn64tab", laid_math_bits_deBruijn64tab), ("internal/strconv.uint64pow10", laid_internal_strconv_uint64pow10)], narrowed := true }
def ScanRangesUptoSaid : Prop := scanRangesUptoRow.holds Tryd.pinned (OpenSpec.upto scanRangesSpec)

/-- 'mergelenslaw01.ScanRangeReads', WHERE WHAT IT READS IS OF BULK AT MOST 1048576: true; the input reads as it did. -/
def scanRangeReadsUptoRow : OpenClaim := { program := "ytbandpkgjepklaadoor", sum := "ba9b586361a8ab953e428aeba385d951a621e9a0f93bde45b3ac43a3ff2168cc", func := "mergelens/mergelenslaw01.ScanRangeReads", spec := "scanRangeReads", inPlace := ["internal/abi.NoEscape"], named := ["internal/strconv.uint64pow10", "math/bits.deBruijn32tab", "math/bits.deBruijn64tab"], apart := false, laid := [("math/bits.deBruijn32tab", laid_math_bits_deBruijn32tab), ("math/bits.deBruijn64tab", laid_math_bits_deBruijn64tab), ("internal/strconv.uint64pow10", laid_internal_strconv_uint64pow10)], narrowed := true }
def ScanRangeReadsUptoSaid : Prop := scanRangeReadsUptoRow.holds Tryd.pinned (OpenSpec.upto scanRangeReadsSpec)

/-- 'mergelenslaw01.ScanWords', WHERE WHAT IT READS IS OF BULK AT MOST 1048576: true; the input reads as it did. -/
def scanWordsUptoRow : OpenClaim := { program := "ytbandpkgjepklaadoor", sum := "ba9b586361a8ab953e428aeba385d951a621e9a0f93bde45b3ac43a3ff2168cc", func := "mergelens/mergelenslaw01.ScanWords", spec := "scanWords", inPlace := ["internal/abi.NoEscape"], unfollowed := true, recurses := true, named := ["internal/strconv.uint64pow10", "math/bits.deBruijn32tab", "math/bits.deBruijn64tab"], apart := false, laid := [("math/bits.deBruijn32tab", laid_math_bits_deBruijn32tab), ("math/bits.deBruijn64tab", laid_math_bits_deBruijn64tab), ("internal/strconv.uint64pow10", laid_internal_strconv_uint64pow10)], narrowed := true }
def ScanWordsUptoSaid : Prop := scanWordsUptoRow.holds Tryd.pinned (OpenSpec.upto scanWordsSpec)

end Rows
end Go.Proofs.YtbandpkgjepklaaDoor
