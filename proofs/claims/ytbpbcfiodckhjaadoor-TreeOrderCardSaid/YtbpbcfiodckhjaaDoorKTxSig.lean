/- Types and signatures of the functions. -/
import Derived.Test.YtbpbcfiodckhjaaDoorFwD
set_option linter.unusedVariables false
set_option linter.unusedSimpArgs false
namespace Go.VS
abbrev YW : BT := (.pair .str (.pair .str (.int .i64)))
abbrev Rename : Type := ((List UInt8) × ((List UInt8) × Int))
abbrev YX : Rename := ([], ([], (0 : Int)))
abbrev Qa : BT := (.pair (.int .i64) (.pair (.int .i64) (.pair .bool (.int .u8))))
abbrev Iy : Type := (Int × (Int × (Bool × Int)))
abbrev RD : Iy := ((0 : Int), ((0 : Int), (false, (0 : Int))))
def AcL : Sig := ⟨[.val false (.sl (.int .i64)) (.node .brw .leaf), .val false (.sl .bool) (.node .brw .leaf)], [.val false .bool .leaf]⟩
def Cn : Sig := ⟨[.val false (.sl (.int .i64)) (.node .brw .leaf), .val false (.int .i64) .leaf, .val false (.int .i64) .leaf, .val false (.int .i64) .leaf], [.val false .str .leaf]⟩
def Bp : Sig := ⟨[], [.val false .bool .leaf]⟩
def Ci : Sig := ⟨[.val false (.int .i64) .leaf, .val false (.int .i64) .leaf], [.val false (.int .i64) .leaf]⟩
def Bm : Sig := ⟨[.val false .str .leaf], [.val false (.int .i64) .leaf]⟩
def Dm : Sig := ⟨[.val false (.int .i64) .leaf], [.val false .str .leaf]⟩
def CA : Sig := ⟨[.val false (.sl (.pair .str .str)) (.node .brw .leaf), .val false .str .leaf], [.val false .str .leaf, .val false .bool .leaf]⟩
def A8 : Sig := ⟨[.val false (.sl (.pair .str .str)) (.node .brw .leaf)], [.val false (.int .i64) .leaf]⟩
def BV : Sig := ⟨[.val false (.sl (.int .i64)) (.node .brw .leaf), .val false (.int .i64) .leaf, .val false (.int .i64) .leaf], [.val false (.sl (.pair .str .str)) (.node .own .leaf)]⟩
def EP : Sig := ⟨[.val false (.sl (.pair .str .str)) (.node .brw .leaf), .val false (.sl (.pair .str .str)) (.node .brw .leaf)], [.val false (.sl (.pair .str (.int .i64))) (.node .own .leaf), .val false (.int .i64) .leaf]⟩
def AaN : Sig := ⟨[.val false (.sl (.pair .str .str)) (.node .brw .leaf), .val false (.sl (.pair .str .str)) (.node .brw .leaf), .val false (.sl (.pair .str (.int .i64))) (.node .brw .leaf)], [.val false (.sl (.pair .str .str)) (.node .own .leaf), .val false (.int .i64) .leaf]⟩
def AaH : Sig := ⟨[.val false (.sl (.pair .str .str)) (.node .brw .leaf), .val false (.sl (.pair .str .str)) (.node .brw .leaf)], [.val false .bool .leaf]⟩
def Cm : Sig := ⟨[.val false (.sl (.int .i64)) (.node .brw .leaf), .val false (.int .i64) .leaf], [.val false (.int .i64) .leaf]⟩
def BZ : Sig := ⟨[.val true (.pair .str .str) .leaf], [.val false .bool .leaf]⟩
def D2 : Sig := ⟨[.val false (.sl (.pair .str .str)) (.node .brw .leaf)], [.val false .bool .leaf]⟩
def B0 : Sig := ⟨[.val true (.pair .str .str) .leaf], [.val false .bool .leaf]⟩
def Cy : Sig := ⟨[.val false .str .leaf], [.val false (.int .i64) .leaf]⟩
def Dn : Sig := ⟨[.val false (.sl (.pair .str .str)) (.node .brw .leaf), .val false (.sl (.pair .str .str)) (.node .brw .leaf)], [.val false (.int .i64) .leaf]⟩
def EO : Sig := ⟨[.val false .str .leaf, .val false .str .leaf], [.val false (.sl .str) (.node .own .leaf)]⟩
def C6 : Sig := ⟨[.val false .str .leaf, .val false .str .leaf], [.val false (.int .i64) .leaf]⟩
def Cz : Sig := ⟨[.val false .str .leaf], [.val false .bool .leaf]⟩
def S_strings_HasSuffix : Sig := ⟨[.val false .str .leaf, .val false .str .leaf], [.val false .bool .leaf]⟩
def Ak : Sig := ⟨[.val false (.sl (.pair .str .str)) (.node .brw .leaf), .clo ("mergelens/tree.Check\x241", false) 0], [.val false .bool .leaf]⟩
def Al : Sig := ⟨[.val false (.sl (.pair .str .str)) (.node .brw .leaf), .clo ("mergelens/tree.Check\x242", false) 0], [.val false .bool .leaf]⟩
def Am : Sig := ⟨[.val false (.sl (.pair .str .str)) (.node .brw .leaf), .clo ("mergelens/tree.Check\x241", false) 0], [.val false (.int .i64) .leaf]⟩
def Ao : Sig := ⟨[.val false (.sl (.pair .str .str)) (.node .brw .leaf), .clo ("mergelens/tree.Check\x242", false) 0], [.val false (.int .i64) .leaf]⟩
abbrev zS0 : String := "mergelens/tree.Check"
abbrev zS1 : String := "mergelens/mergelensgen.At"
abbrev zS2 : String := "slices.IndexFunc[[]mergelens/api.File,mergelens/api.File]"
abbrev zS3 : String := "slices.ContainsFunc[[]mergelens/api.File,mergelens/api.File]"
abbrev zS4 : String := "mergelens/mergelensgen.Mod"
abbrev zS5 : String := "mergelens/tree.CheckPath"
abbrev zS6 : String := "mergelens/mergelensgen.Blob"
abbrev zS7 : String := "mergelens/mergelensgen.Files"
abbrev zS8 : String := "mergelens/tree.Check\x241"
abbrev zS9 : String := "mergelens/tree.Check\x242"
abbrev RA : String := "mergelens/tree.Find"
abbrev RB : String := "mergelens/mergelenslaw21.awake"
abbrev V0 : String := "mergelens/mergelensgen.Trees"
abbrev V1 : String := "mergelens/text.Ended"
abbrev SZ : String := "mergelens/text.Check"
abbrev S0 : String := "mergelens/mergelensgen.Line"
abbrev UL : String := "mergelens/tree.Apply"
abbrev UM : String := "mergelens/mergelenslaw21.TreeOrder"
end Go.VS
