/- Types and signatures of the functions. -/
import Derived.Test.YtbpbcfiodckhjaaDoorFwD
set_option linter.unusedVariables false
set_option linter.unusedSimpArgs false
namespace Go.VS
abbrev UR : BT := (.pair .str (.pair .str (.int .i64)))
abbrev Rename : Type := ((List UInt8) × ((List UInt8) × Int))
abbrev US : Rename := ([], ([], (0 : Int)))
abbrev Nx : BT := (.pair (.int .i64) (.pair (.int .i64) (.pair .bool (.int .u8))))
abbrev Hj : Type := (Int × (Int × (Bool × Int)))
abbrev OP : Hj := ((0 : Int), ((0 : Int), (false, (0 : Int))))
def A1 : Sig := ⟨[.val false .str .leaf, .val false (.sl (.int .i64)) (.node .brw .leaf), .val false (.int .i64) .leaf], [.val false .bool .leaf]⟩
def A7 : Sig := ⟨[], [.val false .bool .leaf]⟩
def B0 : Sig := ⟨[.val false (.int .i64) .leaf, .val false (.int .i64) .leaf], [.val false (.int .i64) .leaf]⟩
def BV : Sig := ⟨[.val false (.sl (.int .i64)) (.node .brw .leaf), .val false (.int .i64) .leaf], [.val false .str .leaf]⟩
def AD : Sig := ⟨[.val false .str .leaf], [.val false (.int .i64) .leaf]⟩
def AG : Sig := ⟨[.val false .str .leaf], [.val false (.int .i64) .leaf]⟩
def Cc : Sig := ⟨[.val false (.sl (.pair .str .str)) (.node .brw .leaf), .val false .str .leaf], [.val false .str .leaf, .val false .bool .leaf]⟩
def Bq : Sig := ⟨[.val false (.sl (.pair .str .str)) (.node .brw .leaf)], [.val false (.int .i64) .leaf]⟩
def CV : Sig := ⟨[.val false (.sl (.int .i64)) (.node .brw .leaf), .val false (.int .i64) .leaf], [.val false (.int .i64) .leaf]⟩
def BG : Sig := ⟨[.val true (.pair .str .str) .leaf], [.val false .bool .leaf]⟩
def Dz : Sig := ⟨[.val false (.sl (.pair .str .str)) (.node .brw .leaf)], [.val false .bool .leaf]⟩
def BH : Sig := ⟨[.val true (.pair .str .str) .leaf], [.val false .bool .leaf]⟩
def Ca : Sig := ⟨[.val false .str .leaf], [.val false (.int .i64) .leaf]⟩
def Ef : Sig := ⟨[.val false .str .leaf, .val false .str .leaf], [.val false (.sl .str) (.node .own .leaf)]⟩
def CE : Sig := ⟨[.val false .str .leaf, .val false .str .leaf], [.val false (.int .i64) .leaf]⟩
def Cb : Sig := ⟨[.val false .str .leaf], [.val false .bool .leaf]⟩
def BO : Sig := ⟨[.val false .str .leaf, .val false .str .leaf], [.val false .bool .leaf]⟩
def Ak : Sig := ⟨[.val false (.sl (.pair .str .str)) (.node .brw .leaf), .clo ("mergelens/tree.Check\x241", false) 0], [.val false .bool .leaf]⟩
def Al : Sig := ⟨[.val false (.sl (.pair .str .str)) (.node .brw .leaf), .clo ("mergelens/tree.Check\x242", false) 0], [.val false .bool .leaf]⟩
def Am : Sig := ⟨[.val false (.sl (.pair .str .str)) (.node .brw .leaf), .clo ("mergelens/tree.Check\x241", false) 0], [.val false (.int .i64) .leaf]⟩
def Ao : Sig := ⟨[.val false (.sl (.pair .str .str)) (.node .brw .leaf), .clo ("mergelens/tree.Check\x242", false) 0], [.val false (.int .i64) .leaf]⟩
abbrev zS0 : String := "mergelens/tree.CheckPath"
abbrev zS1 : String := "mergelens/mergelensref21.CheckPath"
abbrev zS2 : String := "slices.IndexFunc[[]mergelens/api.File,mergelens/api.File]"
abbrev zS3 : String := "slices.ContainsFunc[[]mergelens/api.File,mergelens/api.File]"
abbrev zS4 : String := "mergelens/mergelenslaw21.awake"
abbrev zS5 : String := "mergelens/mergelensgen.Mod"
abbrev zS6 : String := "mergelens/tree.Check"
abbrev zS7 : String := "mergelens/mergelensgen.At"
abbrev zS8 : String := "mergelens/tree.Check\x241"
abbrev zS9 : String := "mergelens/tree.Check\x242"
abbrev Q2 : String := "mergelens/tree.Find"
abbrev Q3 : String := "mergelens/mergelenslaw21.path"
abbrev Se : String := "mergelens/text.Ended"
abbrev Sf : String := "mergelens/text.Check"
abbrev Um : String := "mergelens/mergelenslaw21.TreePaths"
end Go.VS
