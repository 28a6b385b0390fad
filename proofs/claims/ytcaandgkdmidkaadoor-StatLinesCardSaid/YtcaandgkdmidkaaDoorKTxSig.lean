/- Types and signatures of the functions. -/
import Derived.Test.YtcaandgkdmidkaaDoorFwD
set_option linter.unusedVariables false
set_option linter.unusedSimpArgs false
namespace Go.VS
abbrev FA : BT := (.pair .str (.pair (.int .i64) (.int .i64)))
abbrev Stat : Type := ((List UInt8) × (Int × Int))
abbrev FH : Stat := ([], ((0 : Int), (0 : Int)))
abbrev Ml : BT := (.pair (.int .i64) (.pair (.int .i64) (.pair .bool (.int .u8))))
abbrev Gz : Type := (Int × (Int × (Bool × Int)))
abbrev Nt : Gz := ((0 : Int), ((0 : Int), (false, (0 : Int))))
abbrev SX : BT := (.pair (.int .i64) (.pair (.int .i64) (.pair (.int .i64) (.int .i64))))
abbrev Change : Type := (Int × (Int × (Int × Int)))
abbrev SY : Change := ((0 : Int), ((0 : Int), ((0 : Int), (0 : Int))))
abbrev Sx : BT := (.pair (.int .i64) (.pair (.int .i64) (.pair (.int .i64) (.pair (.int .i64) (.pair .bool .str)))))
abbrev Command : Type := (Int × (Int × (Int × (Int × (Bool × (List UInt8))))))
abbrev SW : Command := ((0 : Int), ((0 : Int), ((0 : Int), ((0 : Int), (false, [])))))
abbrev QK : BT := (.pair .str (.pair (.int .i64) (.pair .bool (.pair .bool (.pair .bool .bool)))))
abbrev LF : Type := ((List UInt8) × (Int × (Bool × (Bool × (Bool × Bool)))))
abbrev QL : LF := ([], ((0 : Int), (false, (false, (false, false)))))
def Tt : Sig := ⟨[.val false (.sl (.int .i64)) (.node .brw .leaf), .val false (.int .i64) .leaf, .val false (.int .i64) .leaf], [.val false .bool .leaf]⟩
def Bh : Sig := ⟨[.val false (.int .i64) .leaf, .val false (.int .i64) .leaf, .val false (.int .i64) .leaf, .val false (.int .i64) .leaf], [.val false (.int .i64) .leaf, .val false (.int .i64) .leaf, .val false (.int .i64) .leaf]⟩
def Bg : Sig := ⟨[.val false (.int .i64) .leaf, .val false (.int .i64) .leaf], [.val false (.int .i64) .leaf]⟩
def Bk : Sig := ⟨[], [.val false .bool .leaf]⟩
def Ty : Sig := ⟨[.val false (.int .i64) .leaf], [.val false .str .leaf]⟩
def Tx : Sig := ⟨[.val false (.sl (.int .i64)) (.node .brw .leaf), .val false (.int .i64) .leaf], [.val false (.int .i64) .leaf]⟩
def Dt : Sig := ⟨[.val false (.sl FA) (.node .brw .leaf), .val false (.int .i64) .leaf], [.val false .str .leaf, .val false (.int .i64) .leaf]⟩
def Tv : Sig := ⟨[.val false .str .leaf], [.val false (.sl .str) (.node .own .leaf)]⟩
def Tu : Sig := ⟨[.val false .str .leaf], [.val false .bool .leaf]⟩
def AD : Sig := ⟨[.val false (.int .i64) .leaf], [.val false .bool .leaf]⟩
def BQ : Sig := ⟨[.val false (.int .i64) .leaf, .val false (.int .i64) .leaf, .val false (.int .i64) .leaf, .val false (.int .i64) .leaf], [.val false (.int .i64) .leaf, .val false (.int .i64) .leaf]⟩
def BF : Sig := ⟨[.val false (.sl FA) (.node .brw .leaf)], [.val false (.int .i64) .leaf, .val false (.int .i64) .leaf, .val false (.int .i64) .leaf, .val false .bool .leaf]⟩
def Ts : Sig := ⟨[.val false .str .leaf], [.val false .str .leaf]⟩
def BE : Sig := ⟨[.val false (.int .i64) .leaf], [.val false .str .leaf]⟩
def Bl : Sig := ⟨[.val false (.int .i64) .leaf, .ptr (.int .i64) .leaf, .ptr (.int .i64) .leaf], [.val false (.int .i64) .leaf]⟩
def BK : Sig := ⟨[.val false (.int .u8) .leaf], [.val false .str .leaf]⟩
def D4 : Sig := ⟨[.val false (.int .i64) .leaf], [.val false .str .leaf]⟩
abbrev zS0 : String := "mergelens/stat.number"
abbrev zS1 : String := "mergelens/mergelensgen.Mod"
abbrev zS2 : String := "mergelens/mergelensgen.At"
abbrev zS3 : String := "mergelens/stat.bar\x241"
abbrev zS4 : String := "mergelens/stat.Bar"
abbrev zS5 : String := "mergelens/mergelenslaw27.awake"
abbrev zS6 : String := "mergelens/stat.bar"
abbrev zS7 : String := "mergelens/stat.Format"
abbrev zS8 : String := "mergelens/mergelensgen.Line"
abbrev zS9 : String := "mergelens/mergelensref02.Lines"
abbrev UC : String := "mergelens/mergelensref02.Ended"
abbrev UF : String := "mergelens/mergelenslaw27.StatLines"
end Go.VS
