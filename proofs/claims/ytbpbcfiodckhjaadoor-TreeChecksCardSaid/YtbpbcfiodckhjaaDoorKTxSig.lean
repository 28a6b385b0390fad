/- Types and signatures of the functions. -/
import Derived.Test.YtbpbcfiodckhjaaDoorFwD
set_option linter.unusedVariables false
set_option linter.unusedSimpArgs false
namespace Go.VS
abbrev UR : BT := (.pair .str (.pair .str (.int .i64)))
abbrev Rename : Type := ((List UInt8) × ((List UInt8) × Int))
abbrev US : Rename := ([], ([], (0 : Int)))
abbrev Nx : BT := (.pair (.int .i64) (.pair (.int .i64) (.pair .bool (.int .u8))))
abbrev Hj : Type := (Int × (Int × (Bool × Int)))
abbrev OP : Hj := ((0 : Int), ((0 : Int), (false, (0 : Int))))
def U6 : Sig := ⟨[.val false (.sl (.pair .str .str)) (.node .brw .leaf), .val false .str .leaf, .val false (.sl (.int .i64)) (.node .brw .leaf), .val false (.int .i64) .leaf], [.val false .bool .leaf]⟩
def A7 : Sig := ⟨[], [.val false .bool .leaf]⟩
def B0 : Sig := ⟨[.val false (.int .i64) .leaf, .val false (.int .i64) .leaf], [.val false (.int .i64) .leaf]⟩
def BV : Sig := ⟨[.val false (.sl (.int .i64)) (.node .brw .leaf), .val false (.int .i64) .leaf], [.val false .str .leaf]⟩
def AD : Sig := ⟨[.val false .str .leaf], [.val false (.int .i64) .leaf]⟩
def AG : Sig := ⟨[.val false .str .leaf], [.val false (.int .i64) .leaf]⟩
def U9 : Sig := ⟨[.val false (.sl (.pair .str .str)) (.node .brw .leaf)], [.val false .bool .leaf]⟩
def Ve : Sig := ⟨[.val false (.int .i64) .leaf], [.val false .str .leaf]⟩
def Cc : Sig := ⟨[.val false (.sl (.pair .str .str)) (.node .brw .leaf), .val false .str .leaf], [.val false .str .leaf, .val false .bool .leaf]⟩
def U8 : Sig := ⟨[.val false (.sl (.pair .str .str)) (.node .brw .leaf), .val false .str .leaf], [.val false .str .leaf, .val false .bool .leaf]⟩
def Bq : Sig := ⟨[.val false (.sl (.pair .str .str)) (.node .brw .leaf)], [.val false (.int .i64) .leaf]⟩
def U7 : Sig := ⟨[.val false (.sl (.pair .str .str)) (.node .brw .leaf)], [.val false (.int .i64) .leaf]⟩
def CV : Sig := ⟨[.val false (.sl (.int .i64)) (.node .brw .leaf), .val false (.int .i64) .leaf], [.val false (.int .i64) .leaf]⟩
def Vb : Sig := ⟨[.val false .str .leaf], [.val false (.sl .str) (.node .own .leaf)]⟩
def BG : Sig := ⟨[.val true (.pair .str .str) .leaf], [.val false .bool .leaf]⟩
def Dz : Sig := ⟨[.val false (.sl (.pair .str .str)) (.node .brw .leaf)], [.val false .bool .leaf]⟩
def BH : Sig := ⟨[.val true (.pair .str .str) .leaf], [.val false .bool .leaf]⟩
def Ca : Sig := ⟨[.val false .str .leaf], [.val false (.int .i64) .leaf]⟩
def Vc : Sig := ⟨[.val false .str .leaf, .val false .str .leaf], [.val false .bool .leaf]⟩
def Va : Sig := ⟨[.val false .str .leaf], [.val false (.int .i64) .leaf]⟩
def Ef : Sig := ⟨[.val false .str .leaf, .val false .str .leaf], [.val false (.sl .str) (.node .own .leaf)]⟩
def CE : Sig := ⟨[.val false .str .leaf, .val false .str .leaf], [.val false (.int .i64) .leaf]⟩
def Cb : Sig := ⟨[.val false .str .leaf], [.val false .bool .leaf]⟩
def BO : Sig := ⟨[.val false .str .leaf, .val false .str .leaf], [.val false .bool .leaf]⟩
def Ak : Sig := ⟨[.val false (.sl (.pair .str .str)) (.node .brw .leaf), .clo ("mergelens/tree.Check\x241", false) 0], [.val false .bool .leaf]⟩
def Al : Sig := ⟨[.val false (.sl (.pair .str .str)) (.node .brw .leaf), .clo ("mergelens/tree.Check\x242", false) 0], [.val false .bool .leaf]⟩
def Am : Sig := ⟨[.val false (.sl (.pair .str .str)) (.node .brw .leaf), .clo ("mergelens/tree.Check\x241", false) 0], [.val false (.int .i64) .leaf]⟩
def Ao : Sig := ⟨[.val false (.sl (.pair .str .str)) (.node .brw .leaf), .clo ("mergelens/tree.Check\x242", false) 0], [.val false (.int .i64) .leaf]⟩
abbrev zS0 : String := "mergelens/tree.Check"
abbrev zS1 : String := "mergelens/mergelensgen.Mod"
abbrev zS2 : String := "mergelens/tree.Find"
abbrev zS3 : String := "slices.IndexFunc[[]mergelens/api.File,mergelens/api.File]"
abbrev zS4 : String := "slices.ContainsFunc[[]mergelens/api.File,mergelens/api.File]"
abbrev zS5 : String := "mergelens/mergelenslaw21.path"
abbrev zS6 : String := "mergelens/tree.CheckPath"
abbrev zS7 : String := "mergelens/mergelenslaw21.awake"
abbrev zS8 : String := "mergelens/mergelensgen.At"
abbrev zS9 : String := "mergelens/mergelensref21.Find"
abbrev Q2 : String := "mergelens/mergelensref21.Check"
abbrev Q3 : String := "mergelens/tree.Check\x241"
abbrev Se : String := "mergelens/tree.Check\x242"
abbrev Sf : String := "mergelens/mergelensref21.CheckPath"
abbrev Um : String := "mergelens/text.Ended"
abbrev Wt : String := "mergelens/text.Check"
abbrev Wu : String := "mergelens/mergelenslaw21.small"
abbrev Wv : String := "mergelens/mergelensgen.Line"
abbrev Ww : String := "mergelens/mergelensref21.Above"
abbrev Wx : String := "mergelens/mergelensref02.Lines"
abbrev Wy : String := "mergelens/mergelensref02.Check"
abbrev WC : String := "mergelens/mergelenslaw21.TreeChecks"
end Go.VS
