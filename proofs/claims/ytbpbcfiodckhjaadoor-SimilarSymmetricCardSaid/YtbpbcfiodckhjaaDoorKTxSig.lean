/- Types and signatures of the functions. -/
import Derived.Test.YtbpbcfiodckhjaaDoorFwD
set_option linter.unusedVariables false
set_option linter.unusedSimpArgs false
namespace Go.VS
abbrev UR : BT := (.pair .str (.pair .str (.int .i64)))
abbrev Rename : Type := ((List UInt8) × ((List UInt8) × Int))
abbrev US : Rename := ([], ([], (0 : Int)))
abbrev Nx : BT := (.pair (.int .i64) (.pair (.int .i64) (.pair .bool (.int .u8))))
abbrev Hj : Type := (Int × (Int × (Bool × Int)))
abbrev OP : Hj := ((0 : Int), ((0 : Int), (false, (0 : Int))))
def YC : Sig := ⟨[.val false (.sl (.int .i64)) (.node .brw .leaf), .val false .str .leaf], [.val false .bool .leaf]⟩
def WJ : Sig := ⟨[], [.val false .bool .leaf]⟩
def WQ : Sig := ⟨[.val false (.sl (.int .i64)) (.node .brw .leaf), .val false (.int .i64) .leaf, .val false (.int .i64) .leaf, .val false (.int .i64) .leaf], [.val false .str .leaf]⟩
def WR : Sig := ⟨[.val false .str .leaf, .val false (.sl (.int .i64)) (.node .brw .leaf), .val false (.int .i64) .leaf], [.val false .str .leaf]⟩
def WI : Sig := ⟨[.val false .str .leaf, .val false .str .leaf], [.val false (.int .i64) .leaf, .val false (.int .i64) .leaf]⟩
def B0 : Sig := ⟨[.val false (.int .i64) .leaf, .val false (.int .i64) .leaf], [.val false (.int .i64) .leaf]⟩
def Ve : Sig := ⟨[.val false (.int .i64) .leaf], [.val false .str .leaf]⟩
def CV : Sig := ⟨[.val false (.sl (.int .i64)) (.node .brw .leaf), .val false (.int .i64) .leaf], [.val false (.int .i64) .leaf]⟩
def Vb : Sig := ⟨[.val false .str .leaf], [.val false (.sl .str) (.node .own .leaf)]⟩
def WN : Sig := ⟨[.val false .str .leaf], [.val false (.sl .str) (.node .own .leaf), .val false (.int .i64) .leaf]⟩
def Ca : Sig := ⟨[.val false .str .leaf], [.val false (.int .i64) .leaf]⟩
def Ef : Sig := ⟨[.val false .str .leaf, .val false .str .leaf], [.val false (.sl .str) (.node .own .leaf)]⟩
def CE : Sig := ⟨[.val false .str .leaf, .val false .str .leaf], [.val false (.int .i64) .leaf]⟩
def Cb : Sig := ⟨[.val false .str .leaf], [.val false .bool .leaf]⟩
def BO : Sig := ⟨[.val false .str .leaf, .val false .str .leaf], [.val false .bool .leaf]⟩
abbrev zS0 : String := "mergelens/mergelensgen.At"
abbrev zS1 : String := "mergelens/similar.Score"
abbrev zS2 : String := "mergelens/mergelensgen.Mod"
abbrev zS3 : String := "mergelens/mergelenslaw22.awake"
abbrev zS4 : String := "mergelens/mergelensgen.Line"
abbrev zS5 : String := "mergelens/mergelensgen.Blob"
abbrev zS6 : String := "mergelens/mergelensref02.Lines"
abbrev zS7 : String := "mergelens/mergelensgen.Near"
abbrev zS8 : String := "mergelens/text.Ended"
abbrev zS9 : String := "mergelens/text.Check"
abbrev Q2 : String := "mergelens/text.Split"
abbrev Q3 : String := "mergelens/mergelenslaw22.SimilarSymmetric"
end Go.VS
