/- Types and signatures of the functions. -/
import Derived.Test.YtbandpkgjepklaaDoorFwD
set_option linter.unusedVariables false
set_option linter.unusedSimpArgs false
namespace Go.VS
abbrev bruntime_boundsError : BT := (.pair (.int .i64) (.pair (.int .i64) (.pair .bool (.int .u8))))
abbrev runtime_boundsError : Type := (Int × (Int × (Bool × Int)))
abbrev zruntime_boundsError : runtime_boundsError := ((0 : Int), ((0 : Int), (false, (0 : Int))))
def S_law01_ScanWords : Sig := ⟨[.val false .str .leaf, .val false (.sl .str) (.node .brw .leaf)], [.val false .bool .leaf]⟩
def S_law01_awake : Sig := ⟨[], [.val false .bool .leaf]⟩
def S_scan_Number : Sig := ⟨[.val false .str .leaf, .val false (.int .i64) .leaf], [.val false (.int .i64) .leaf, .val false (.int .i64) .leaf, .val false .bool .leaf]⟩
def S_gen_Mod : Sig := ⟨[.val false (.int .i64) .leaf, .val false (.int .i64) .leaf], [.val false (.int .i64) .leaf]⟩
def S_scan_Format : Sig := ⟨[.val false (.int .i64) .leaf], [.val false .str .leaf]⟩
def S_scan_Unquote : Sig := ⟨[.val false .str .leaf, .val false (.int .i64) .leaf], [.val false .str .leaf, .val false (.int .i64) .leaf, .val false .bool .leaf]⟩
def S_ref01_Unquote : Sig := ⟨[.val false .str .leaf, .val false (.int .i64) .leaf], [.val false .str .leaf, .val false (.int .i64) .leaf, .val false .bool .leaf]⟩
def S_scan_Quote : Sig := ⟨[.val false .str .leaf], [.val false .str .leaf]⟩
def S_ref01_Quote : Sig := ⟨[.val false .str .leaf], [.val false .str .leaf]⟩
def S_scan_FormatRange : Sig := ⟨[.val false (.int .i64) .leaf, .val false (.int .i64) .leaf], [.val false .str .leaf]⟩
def S_scan_Words : Sig := ⟨[.val false .str .leaf], [.val false (.sl .str) (.node .own .leaf), .val false .bool .leaf]⟩
def S_ref01_Words : Sig := ⟨[.val false .str .leaf], [.val false (.sl .str) (.node .own .leaf), .val false .bool .leaf]⟩
def S_gen_Strings : Sig := ⟨[.val false (.sl .str) (.node .brw .leaf), .val false (.sl .str) (.node .brw .leaf)], [.val false .bool .leaf]⟩
def S_scan_digit : Sig := ⟨[.val false .str .leaf, .val false (.int .i64) .leaf], [.val false .bool .leaf]⟩
def S_strconv_Itoa : Sig := ⟨[.val false (.int .i64) .leaf], [.val false .str .leaf]⟩
def S_scan_reader_word : Sig := ⟨[.ptr (.pair .str (.int .i64)) .leaf], [.val false .str .leaf, .val false .bool .leaf]⟩
def S_ref01_Plain : Sig := ⟨[.val false (.int .u8) .leaf], [.val false .bool .leaf]⟩
def S_ref01_octal : Sig := ⟨[.val false .str .leaf, .val false (.int .i64) .leaf], [.val false (.int .u8) .leaf, .val false .bool .leaf]⟩
def S_scan_plain : Sig := ⟨[.val false (.int .u8) .leaf], [.val false .bool .leaf]⟩
def S_scan_escaped : Sig := ⟨[.val false (.int .u8) .leaf], [.val false .str .leaf]⟩
def S_scan_reader_quoted : Sig := ⟨[.ptr (.pair .str (.int .i64)) .leaf], [.val false .str .leaf, .val false .bool .leaf]⟩
def S_scan_reader_escape : Sig := ⟨[.ptr (.pair .str (.int .i64)) .leaf], [.val false (.int .u8) .leaf, .val false .bool .leaf]⟩
def S_scan_reader_octal : Sig := ⟨[.ptr (.pair .str (.int .i64)) .leaf], [.val false (.int .u8) .leaf, .val false .bool .leaf]⟩
end Go.VS
