/- Types and signatures of the functions. -/
import Derived.Test.YtbpbcfiodckhjaaDoorFwD
set_option linter.unusedVariables false
set_option linter.unusedSimpArgs false
namespace Go.VS
abbrev YW : BT := (.pair .str (.pair .str (.int .i64)))
abbrev Rename : Type := ((List UInt8) × ((List UInt8) × Int))
abbrev YX : Rename := ([], ([], (0 : Int)))
abbrev Qa : BT := (.pair (.int .i64) (.pair (.int .i64) (.pair .bool (.int .u8))))
abbrev Iy : Type := (Int × (Int × (Bool × Int)))
abbrev RD : Iy := ((0 : Int), ((0 : Int), (false, (0 : Int))))
def Zx : Sig := ⟨[.val false (.sl (.pair .str .str)) (.node .brw .leaf), .val false (.sl (.pair .str .str)) (.node .brw .leaf), .val false (.int .i64) .leaf], [.val false .bool .leaf]⟩
def Zy : Sig := ⟨[], [.val false .bool .leaf]⟩
def Zz : Sig := ⟨[.val false .str .leaf, .val false .str .leaf], [.val false (.int .i64) .leaf, .val false (.int .i64) .leaf]⟩
def Bm : Sig := ⟨[.val false .str .leaf], [.val false (.int .i64) .leaf]⟩
def Bd : Sig := ⟨[.val false .str .leaf], [.val false (.int .i64) .leaf]⟩
def BE : Sig := ⟨[.val false (.sl (.pair .str .str)) (.node .brw .leaf), .val false .str .leaf], [.val false .str .leaf, .val false .bool .leaf]⟩
def A8 : Sig := ⟨[.val false (.sl (.pair .str .str)) (.node .brw .leaf)], [.val false (.int .i64) .leaf]⟩
def Bq : Sig := ⟨[.val false (.sl (.pair .str .str)) (.node .brw .leaf)], [.val false (.int .i64) .leaf]⟩
def EP : Sig := ⟨[.val false (.sl (.pair .str .str)) (.node .brw .leaf), .val false (.sl (.pair .str .str)) (.node .brw .leaf)], [.val false (.sl (.pair .str (.int .i64))) (.node .own .leaf), .val false (.int .i64) .leaf]⟩
def BQ : Sig := ⟨[.val false (.sl (.pair .str .str)) (.node .brw .leaf), .val false (.sl (.pair .str .str)) (.node .brw .leaf)], [.val false (.sl (.pair .str (.int .i64))) (.node .own .leaf), .val false (.int .i64) .leaf]⟩
def BX : Sig := ⟨[.val false (.sl (.pair .str .str)) (.node .brw .leaf), .val false (.sl (.pair .str .str)) (.node .brw .leaf)], [.val false (.sl (.pair .str (.int .i64))) (.node .own .leaf)]⟩
def ZE : Sig := ⟨[.val false (.sl (.pair .str .str)) (.node .brw .leaf), .val false (.sl (.pair .str .str)) (.node .brw .leaf), .val false (.int .i64) .leaf], [.val false (.sl YW) (.node .own .leaf), .val false (.int .i64) .leaf]⟩
def Cd : Sig := ⟨[.val false .str .leaf], [.val false (.sl .str) (.node .own .leaf)]⟩
def ZB : Sig := ⟨[.val false .str .leaf], [.val false (.sl .str) (.node .own .leaf), .val false (.int .i64) .leaf]⟩
def BZ : Sig := ⟨[.val true (.pair .str .str) .leaf], [.val false .bool .leaf]⟩
def D2 : Sig := ⟨[.val false (.sl (.pair .str .str)) (.node .brw .leaf)], [.val false .bool .leaf]⟩
def B0 : Sig := ⟨[.val true (.pair .str .str) .leaf], [.val false .bool .leaf]⟩
def Cy : Sig := ⟨[.val false .str .leaf], [.val false (.int .i64) .leaf]⟩
def Ce : Sig := ⟨[.val false .str .leaf, .val false .str .leaf], [.val false .bool .leaf]⟩
def Cc : Sig := ⟨[.val false .str .leaf], [.val false (.int .i64) .leaf]⟩
def Dn : Sig := ⟨[.val false (.sl (.pair .str .str)) (.node .brw .leaf), .val false (.sl (.pair .str .str)) (.node .brw .leaf)], [.val false (.int .i64) .leaf]⟩
def Cf : Sig := ⟨[.val false (.sl (.pair .str .str)) (.node .brw .leaf), .val false (.sl (.pair .str .str)) (.node .brw .leaf)], [.val false (.sl .str) (.node .own .leaf)]⟩
def EO : Sig := ⟨[.val false .str .leaf, .val false .str .leaf], [.val false (.sl .str) (.node .own .leaf)]⟩
def C6 : Sig := ⟨[.val false .str .leaf, .val false .str .leaf], [.val false (.int .i64) .leaf]⟩
def Cz : Sig := ⟨[.val false .str .leaf], [.val false .bool .leaf]⟩
def B9 : Sig := ⟨[.val false .str .leaf, .val false .str .leaf], [.val false .bool .leaf]⟩
def Ak : Sig := ⟨[.val false (.sl (.pair .str .str)) (.node .brw .leaf), .clo ("mergelens/tree.Check\x241", false) 0], [.val false .bool .leaf]⟩
def Al : Sig := ⟨[.val false (.sl (.pair .str .str)) (.node .brw .leaf), .clo ("mergelens/tree.Check\x242", false) 0], [.val false .bool .leaf]⟩
def Am : Sig := ⟨[.val false (.sl (.pair .str .str)) (.node .brw .leaf), .clo ("mergelens/tree.Check\x241", false) 0], [.val false (.int .i64) .leaf]⟩
def Ao : Sig := ⟨[.val false (.sl (.pair .str .str)) (.node .brw .leaf), .clo ("mergelens/tree.Check\x242", false) 0], [.val false (.int .i64) .leaf]⟩
abbrev zS0 : String := "mergelens/mergelensref21.Check"
abbrev zS1 : String := "slices.IndexFunc[[]mergelens/api.File,mergelens/api.File]"
abbrev zS2 : String := "slices.ContainsFunc[[]mergelens/api.File,mergelens/api.File]"
abbrev zS3 : String := "mergelens/mergelenslaw22.awake"
abbrev zS4 : String := "mergelens/mergelensref21.Find"
abbrev zS5 : String := "mergelens/tree.Check"
abbrev zS6 : String := "mergelens/tree.Check\x241"
abbrev zS7 : String := "mergelens/tree.Check\x242"
abbrev zS8 : String := "mergelens/text.Check"
abbrev zS9 : String := "mergelens/similar.Score"
abbrev RA : String := "mergelens/mergelensref21.CheckPath"
abbrev RB : String := "mergelens/mergelensref21.Above"
abbrev V0 : String := "mergelens/mergelensref02.Lines"
abbrev V1 : String := "mergelens/mergelensref02.Check"
abbrev SZ : String := "mergelens/mergelensref21.paths"
abbrev S0 : String := "mergelens/mergelensref21.Deltas"
abbrev UL : String := "mergelens/mergelensref21.Diff"
abbrev UM : String := "mergelens/text.Ended"
abbrev V2 : String := "mergelens/tree.CheckPath"
abbrev V4 : String := "mergelens/text.Split"
abbrev V5 : String := "mergelens/similar.Renames"
abbrev V6 : String := "mergelens/mergelenslaw22.SimilarRefuses"
end Go.VS
