/- Types and signatures of the functions. -/
import Derived.Test.YtcaandgkdmidkaaDoorFwD
set_option linter.unusedVariables false
set_option linter.unusedSimpArgs false
namespace Go.VS
abbrev Yi : BT := (.pair .str (.pair (.int .i64) (.int .i64)))
abbrev Stat : Type := ((List UInt8) × (Int × Int))
abbrev Yj : Stat := ([], ((0 : Int), (0 : Int)))
abbrev Po : BT := (.pair (.int .i64) (.pair (.int .i64) (.pair .bool (.int .u8))))
abbrev Ik : Type := (Int × (Int × (Bool × Int)))
abbrev QL : Ik := ((0 : Int), ((0 : Int), (false, (0 : Int))))
abbrev X8 : BT := (.pair (.int .i64) (.pair (.int .i64) (.pair (.int .i64) (.int .i64))))
abbrev Change : Type := (Int × (Int × (Int × Int)))
abbrev X9 : Change := ((0 : Int), ((0 : Int), ((0 : Int), (0 : Int))))
abbrev AJ : BT := (.pair (.int .i64) (.pair (.int .i64) (.pair (.int .i64) (.pair (.int .i64) (.pair .bool .str)))))
abbrev Command : Type := (Int × (Int × (Int × (Int × (Bool × (List UInt8))))))
abbrev Da : Command := ((0 : Int), ((0 : Int), ((0 : Int), ((0 : Int), (false, [])))))
abbrev Dp : BT := (.pair .str (.pair (.int .i64) (.pair .bool (.pair .bool (.pair .bool .bool)))))
abbrev Al : Type := ((List UInt8) × (Int × (Bool × (Bool × (Bool × Bool)))))
abbrev A1 : Al := ([], ((0 : Int), (false, (false, (false, false)))))
def AcY : Sig := ⟨[.val false .bool .leaf], [.val false .bool .leaf]⟩
def Bg : Sig := ⟨[], [.val false .bool .leaf]⟩
def AZ : Sig := ⟨[.val false .str .leaf], [.val true AJ .leaf, .val false (.int .i64) .leaf]⟩
def YE : Sig := ⟨[.val false .str .leaf], [.val false (.sl AJ) (.node .own .leaf), .val false (.int .i64) .leaf, .val false (.int .i64) .leaf]⟩
def Bq : Sig := ⟨[.val false .str .leaf], [.val false .str .leaf]⟩
def Pb : Sig := ⟨[.val false (.sl .str) (.node .brw .leaf)], [.val false .str .leaf]⟩
def Bx : Sig := ⟨[], [.val false (.sl Dp) (.node .own .leaf)]⟩
def B9 : Sig := ⟨[.val false .str .leaf], [.val false (.sl .str) (.node .own .leaf), .val false .bool .leaf]⟩
def AO : Sig := ⟨[.val true Dp .leaf, .val false (.sl .str) (.node .brw .leaf)], [.val true AJ .leaf, .val false .bool .leaf]⟩
def YI : Sig := ⟨[.val false .str .leaf], [.val false (.sl .str) (.node .own .leaf), .val false (.int .i64) .leaf]⟩
def YP : Sig := ⟨[.val false .str .leaf], [.val false (.sl .str) (.node .own .leaf), .val false (.int .i64) .leaf]⟩
def Ca : Sig := ⟨[.val false (.int .u8) .leaf], [.val false .bool .leaf]⟩
def Cn : Sig := ⟨[.val false (.int .u8) .leaf], [.val false .str .leaf]⟩
def A6 : Sig := ⟨[.ptr (.pair .str (.int .i64)) .leaf], [.val false .str .leaf, .val false .bool .leaf]⟩
def Cf : Sig := ⟨[.val false .str .leaf, .val false (.int .i64) .leaf], [.val false (.int .i64) .leaf, .val false (.int .i64) .leaf, .val false .bool .leaf]⟩
def YL : Sig := ⟨[.val false .str .leaf, .val false .str .leaf], [.val false .str .leaf]⟩
def YY : Sig := ⟨[.val false .str .leaf], [.val false (.int .i64) .leaf]⟩
def YX : Sig := ⟨[.val false .str .leaf, .val false .str .leaf], [.val false (.sl .str) (.node .own .leaf)]⟩
def AR : Sig := ⟨[.ptr (.pair .str (.int .i64)) .leaf], [.val false .str .leaf, .val false .bool .leaf]⟩
def BL : Sig := ⟨[.val false .str .leaf, .val false (.int .i64) .leaf], [.val false .bool .leaf]⟩
def Y1 : Sig := ⟨[.val false .str .leaf, .val false .str .leaf], [.val false (.int .i64) .leaf]⟩
def YZ : Sig := ⟨[.val false .str .leaf], [.val false .bool .leaf]⟩
def AQ : Sig := ⟨[.ptr (.pair .str (.int .i64)) .leaf], [.val false (.int .u8) .leaf, .val false .bool .leaf]⟩
def YM : Sig := ⟨[.val false .str .leaf, .val false .str .leaf], [.val false .bool .leaf]⟩
def A2 : Sig := ⟨[.ptr (.pair .str (.int .i64)) .leaf], [.val false (.int .u8) .leaf, .val false .bool .leaf]⟩
abbrev zS0 : String := "mergelens/scan.Quote"
abbrev zS1 : String := "mergelens/command.Parse"
abbrev zS2 : String := "(mergelens/command.form).read"
abbrev zS3 : String := "mergelens/scan.digit"
abbrev zS4 : String := "mergelens/mergelenslaw32.awake"
abbrev zS5 : String := "mergelens/text.Split"
abbrev zS6 : String := "mergelens/command.Script"
abbrev zS7 : String := "mergelens/command.forms"
abbrev zS8 : String := "mergelens/scan.plain"
abbrev zS9 : String := "(*mergelens/scan.reader).octal"
abbrev RN : String := "(*mergelens/scan.reader).escape"
abbrev Uc : String := "(*mergelens/scan.reader).quoted"
abbrev Ud : String := "(*mergelens/scan.reader).word"
abbrev Ue : String := "mergelens/scan.Words"
abbrev VG : String := "mergelens/text.Ended"
abbrev VH : String := "mergelens/text.Check"
abbrev VI : String := "mergelens/command.Split"
abbrev VJ : String := "mergelens/mergelenslaw32.CommandLimits"
end Go.VS
