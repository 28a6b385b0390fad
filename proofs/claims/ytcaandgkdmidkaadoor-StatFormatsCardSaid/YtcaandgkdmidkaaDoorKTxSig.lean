/- Types and signatures of the functions. -/
import Derived.Test.YtcaandgkdmidkaaDoorFwD
set_option linter.unusedVariables false
set_option linter.unusedSimpArgs false
namespace Go.VS
abbrev FA : BT := (.pair .str (.pair (.int .i64) (.int .i64)))
abbrev Stat : Type := ((List UInt8) × (Int × Int))
abbrev FH : Stat := ([], ((0 : Int), (0 : Int)))
abbrev Ml : BT := (.pair (.int .i64) (.pair (.int .i64) (.pair .bool (.int .u8))))
abbrev Gz : Type := (Int × (Int × (Bool × Int)))
abbrev Nt : Gz := ((0 : Int), ((0 : Int), (false, (0 : Int))))
abbrev SX : BT := (.pair (.int .i64) (.pair (.int .i64) (.pair (.int .i64) (.int .i64))))
abbrev Change : Type := (Int × (Int × (Int × Int)))
abbrev SY : Change := ((0 : Int), ((0 : Int), ((0 : Int), (0 : Int))))
abbrev Sx : BT := (.pair (.int .i64) (.pair (.int .i64) (.pair (.int .i64) (.pair (.int .i64) (.pair .bool .str)))))
abbrev Command : Type := (Int × (Int × (Int × (Int × (Bool × (List UInt8))))))
abbrev SW : Command := ((0 : Int), ((0 : Int), ((0 : Int), ((0 : Int), (false, [])))))
abbrev QK : BT := (.pair .str (.pair (.int .i64) (.pair .bool (.pair .bool (.pair .bool .bool)))))
abbrev LF : Type := ((List UInt8) × (Int × (Bool × (Bool × (Bool × Bool)))))
abbrev QL : LF := ([], ((0 : Int), (false, (false, (false, false)))))
def UL : Sig := ⟨[.val false (.sl FA) (.node .brw .leaf), .val false (.int .i64) .leaf, .val false (.sl (.int .i64)) (.node .brw .leaf), .val false (.int .i64) .leaf], [.val false .bool .leaf]⟩
def Bh : Sig := ⟨[.val false (.int .i64) .leaf, .val false (.int .i64) .leaf, .val false (.int .i64) .leaf, .val false (.int .i64) .leaf], [.val false (.int .i64) .leaf, .val false (.int .i64) .leaf, .val false (.int .i64) .leaf]⟩
def Bm : Sig := ⟨[.val false (.int .i64) .leaf, .val false (.int .i64) .leaf, .val false (.int .i64) .leaf, .val false (.int .i64) .leaf], [.val false (.int .i64) .leaf, .val false (.int .i64) .leaf, .val false (.int .i64) .leaf]⟩
def Bg : Sig := ⟨[.val false (.int .i64) .leaf, .val false (.int .i64) .leaf], [.val false (.int .i64) .leaf]⟩
def Bk : Sig := ⟨[], [.val false .bool .leaf]⟩
def Ty : Sig := ⟨[.val false (.int .i64) .leaf], [.val false .str .leaf]⟩
def Tx : Sig := ⟨[.val false (.sl (.int .i64)) (.node .brw .leaf), .val false (.int .i64) .leaf], [.val false (.int .i64) .leaf]⟩
def Dt : Sig := ⟨[.val false (.sl FA) (.node .brw .leaf), .val false (.int .i64) .leaf], [.val false .str .leaf, .val false (.int .i64) .leaf]⟩
def UM : Sig := ⟨[.val false (.sl FA) (.node .brw .leaf), .val false (.int .i64) .leaf], [.val false .str .leaf, .val false (.int .i64) .leaf]⟩
def AD : Sig := ⟨[.val false (.int .i64) .leaf], [.val false .bool .leaf]⟩
def BQ : Sig := ⟨[.val false (.int .i64) .leaf, .val false (.int .i64) .leaf, .val false (.int .i64) .leaf, .val false (.int .i64) .leaf], [.val false (.int .i64) .leaf, .val false (.int .i64) .leaf]⟩
def A6 : Sig := ⟨[.val false (.int .i64) .leaf, .val false (.int .i64) .leaf, .val false (.int .i64) .leaf], [.val false (.int .i64) .leaf]⟩
def BF : Sig := ⟨[.val false (.sl FA) (.node .brw .leaf)], [.val false (.int .i64) .leaf, .val false (.int .i64) .leaf, .val false (.int .i64) .leaf, .val false .bool .leaf]⟩
def Ts : Sig := ⟨[.val false .str .leaf], [.val false .str .leaf]⟩
def BE : Sig := ⟨[.val false (.int .i64) .leaf], [.val false .str .leaf]⟩
def UO : Sig := ⟨[.val false (.sl FA) (.node .brw .leaf)], [.val false (.int .i64) .leaf, .val false (.int .i64) .leaf, .val false .bool .leaf]⟩
def UK : Sig := ⟨[.val false .str .leaf], [.val false .str .leaf]⟩
def UJ : Sig := ⟨[.val false (.int .i64) .leaf], [.val false .str .leaf]⟩
def UI : Sig := ⟨[.val false (.int .i64) .leaf, .val false .str .leaf], [.val false .str .leaf]⟩
def U3 : Sig := ⟨[.val false (.sl .str) (.node .brw .leaf)], [.val false .str .leaf]⟩
def Bl : Sig := ⟨[.val false (.int .i64) .leaf, .ptr (.int .i64) .leaf, .ptr (.int .i64) .leaf], [.val false (.int .i64) .leaf]⟩
def BK : Sig := ⟨[.val false (.int .u8) .leaf], [.val false .str .leaf]⟩
def D4 : Sig := ⟨[.val false (.int .i64) .leaf], [.val false .str .leaf]⟩
def UN : Sig := ⟨[.val false (.int .u8) .leaf], [.val false .bool .leaf]⟩
abbrev zS0 : String := "mergelens/mergelensref27.signs"
abbrev zS1 : String := "mergelens/mergelensref01.Format"
abbrev zS2 : String := "mergelens/mergelensref01.Quote"
abbrev zS3 : String := "mergelens/mergelensgen.Mod"
abbrev zS4 : String := "mergelens/stat.number"
abbrev zS5 : String := "mergelens/mergelenslaw27.awake"
abbrev zS6 : String := "mergelens/stat.Format"
abbrev zS7 : String := "mergelens/mergelensgen.At"
abbrev zS8 : String := "mergelens/mergelensref27.Format"
abbrev zS9 : String := "mergelens/mergelensref27.scale"
abbrev UC : String := "mergelens/mergelensref27.Bar"
abbrev UF : String := "mergelens/stat.bar\x241"
abbrev VN : String := "mergelens/stat.Bar"
abbrev VT : String := "mergelens/stat.bar"
abbrev VU : String := "mergelens/mergelensgen.Line"
abbrev VV : String := "mergelens/mergelensref27.sums"
abbrev VW : String := "mergelens/mergelensref01.Plain"
abbrev V4 : String := "mergelens/mergelensref02.All"
abbrev V5 : String := "mergelens/mergelenslaw27.StatFormats"
end Go.VS
