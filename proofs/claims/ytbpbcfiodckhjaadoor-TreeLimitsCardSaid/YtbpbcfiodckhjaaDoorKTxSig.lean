/- Types and signatures of the functions. -/
import Derived.Test.YtbpbcfiodckhjaaDoorFwD
set_option linter.unusedVariables false
set_option linter.unusedSimpArgs false
namespace Go.VS
abbrev YW : BT := (.pair .str (.pair .str (.int .i64)))
abbrev Rename : Type := ((List UInt8) × ((List UInt8) × Int))
abbrev YX : Rename := ([], ([], (0 : Int)))
abbrev Qa : BT := (.pair (.int .i64) (.pair (.int .i64) (.pair .bool (.int .u8))))
abbrev Iy : Type := (Int × (Int × (Bool × Int)))
abbrev RD : Iy := ((0 : Int), ((0 : Int), (false, (0 : Int))))
def Y9 : Sig := ⟨[.val false .bool .leaf], [.val false .bool .leaf]⟩
def Bp : Sig := ⟨[], [.val false .bool .leaf]⟩
def Bm : Sig := ⟨[.val false .str .leaf], [.val false (.int .i64) .leaf]⟩
def CA : Sig := ⟨[.val false (.sl (.pair .str .str)) (.node .brw .leaf), .val false .str .leaf], [.val false .str .leaf, .val false .bool .leaf]⟩
def A8 : Sig := ⟨[.val false (.sl (.pair .str .str)) (.node .brw .leaf)], [.val false (.int .i64) .leaf]⟩
def EP : Sig := ⟨[.val false (.sl (.pair .str .str)) (.node .brw .leaf), .val false (.sl (.pair .str .str)) (.node .brw .leaf)], [.val false (.sl (.pair .str (.int .i64))) (.node .own .leaf), .val false (.int .i64) .leaf]⟩
def BZ : Sig := ⟨[.val true (.pair .str .str) .leaf], [.val false .bool .leaf]⟩
def D2 : Sig := ⟨[.val false (.sl (.pair .str .str)) (.node .brw .leaf)], [.val false .bool .leaf]⟩
def B0 : Sig := ⟨[.val true (.pair .str .str) .leaf], [.val false .bool .leaf]⟩
def Cy : Sig := ⟨[.val false .str .leaf], [.val false (.int .i64) .leaf]⟩
def Dn : Sig := ⟨[.val false (.sl (.pair .str .str)) (.node .brw .leaf), .val false (.sl (.pair .str .str)) (.node .brw .leaf)], [.val false (.int .i64) .leaf]⟩
def EO : Sig := ⟨[.val false .str .leaf, .val false .str .leaf], [.val false (.sl .str) (.node .own .leaf)]⟩
def C6 : Sig := ⟨[.val false .str .leaf, .val false .str .leaf], [.val false (.int .i64) .leaf]⟩
def Cz : Sig := ⟨[.val false .str .leaf], [.val false .bool .leaf]⟩
def B9 : Sig := ⟨[.val false .str .leaf, .val false .str .leaf], [.val false .bool .leaf]⟩
def Ak : Sig := ⟨[.val false (.sl (.pair .str .str)) (.node .brw .leaf), .clo ("mergelens/tree.Check\x241", false) 0], [.val false .bool .leaf]⟩
def Al : Sig := ⟨[.val false (.sl (.pair .str .str)) (.node .brw .leaf), .clo ("mergelens/tree.Check\x242", false) 0], [.val false .bool .leaf]⟩
def Am : Sig := ⟨[.val false (.sl (.pair .str .str)) (.node .brw .leaf), .clo ("mergelens/tree.Check\x241", false) 0], [.val false (.int .i64) .leaf]⟩
def Ao : Sig := ⟨[.val false (.sl (.pair .str .str)) (.node .brw .leaf), .clo ("mergelens/tree.Check\x242", false) 0], [.val false (.int .i64) .leaf]⟩
abbrev zS0 : String := "mergelens/tree.Check"
abbrev zS1 : String := "slices.IndexFunc[[]mergelens/api.File,mergelens/api.File]"
abbrev zS2 : String := "slices.ContainsFunc[[]mergelens/api.File,mergelens/api.File]"
abbrev zS3 : String := "mergelens/tree.CheckPath"
abbrev zS4 : String := "mergelens/tree.Check\x241"
abbrev zS5 : String := "mergelens/tree.Check\x242"
abbrev zS6 : String := "mergelens/tree.Find"
abbrev zS7 : String := "mergelens/mergelenslaw21.awake"
abbrev zS8 : String := "mergelens/text.Ended"
abbrev zS9 : String := "mergelens/text.Check"
abbrev RA : String := "mergelens/mergelenslaw21.TreeLimits"
end Go.VS
