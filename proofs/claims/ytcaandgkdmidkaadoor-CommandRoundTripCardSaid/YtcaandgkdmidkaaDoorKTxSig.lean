/- Types and signatures of the functions. -/
import Derived.Test.YtcaandgkdmidkaaDoorFwD
set_option linter.unusedVariables false
set_option linter.unusedSimpArgs false
namespace Go.VS
abbrev Yi : BT := (.pair .str (.pair (.int .i64) (.int .i64)))
abbrev Stat : Type := ((List UInt8) × (Int × Int))
abbrev Yj : Stat := ([], ((0 : Int), (0 : Int)))
abbrev Po : BT := (.pair (.int .i64) (.pair (.int .i64) (.pair .bool (.int .u8))))
abbrev Ik : Type := (Int × (Int × (Bool × Int)))
abbrev QL : Ik := ((0 : Int), ((0 : Int), (false, (0 : Int))))
abbrev X8 : BT := (.pair (.int .i64) (.pair (.int .i64) (.pair (.int .i64) (.int .i64))))
abbrev Change : Type := (Int × (Int × (Int × Int)))
abbrev X9 : Change := ((0 : Int), ((0 : Int), ((0 : Int), (0 : Int))))
abbrev AJ : BT := (.pair (.int .i64) (.pair (.int .i64) (.pair (.int .i64) (.pair (.int .i64) (.pair .bool .str)))))
abbrev Command : Type := (Int × (Int × (Int × (Int × (Bool × (List UInt8))))))
abbrev Da : Command := ((0 : Int), ((0 : Int), ((0 : Int), ((0 : Int), (false, [])))))
abbrev Dp : BT := (.pair .str (.pair (.int .i64) (.pair .bool (.pair .bool (.pair .bool .bool)))))
abbrev Al : Type := ((List UInt8) × (Int × (Bool × (Bool × (Bool × Bool)))))
abbrev A1 : Al := ([], ((0 : Int), (false, (false, (false, false)))))
def Yk : Sig := ⟨[.val false (.sl (.int .i64)) (.node .brw .leaf), .val false .str .leaf, .val false (.int .i64) .leaf, .val false (.int .i64) .leaf, .val false (.int .i64) .leaf], [.val false .bool .leaf]⟩
def Bd : Sig := ⟨[.val false (.int .i64) .leaf, .val false (.int .i64) .leaf], [.val false (.int .i64) .leaf]⟩
def CW : Sig := ⟨[.val false (.int .i64) .leaf], [.val false .str .leaf]⟩
def Cm : Sig := ⟨[.val false (.sl (.int .i64)) (.node .brw .leaf), .val false (.int .i64) .leaf], [.val false (.int .i64) .leaf]⟩
def Bg : Sig := ⟨[], [.val false .bool .leaf]⟩
def BU : Sig := ⟨[.val false (.sl (.int .i64)) (.node .brw .leaf), .val false (.int .i64) .leaf], [.val true AJ .leaf]⟩
def BH : Sig := ⟨[.val true AJ .leaf], [.val false .str .leaf, .val false (.int .i64) .leaf]⟩
def AZ : Sig := ⟨[.val false .str .leaf], [.val true AJ .leaf, .val false (.int .i64) .leaf]⟩
def Ym : Sig := ⟨[.val false .str .leaf, .val false (.int .i64) .leaf, .val false (.int .i64) .leaf, .val false (.int .i64) .leaf], [.val false .str .leaf]⟩
def Bq : Sig := ⟨[.val false .str .leaf], [.val false .str .leaf]⟩
def Ce : Sig := ⟨[.val false (.int .i64) .leaf], [.val false .str .leaf]⟩
def Pb : Sig := ⟨[.val false (.sl .str) (.node .brw .leaf)], [.val false .str .leaf]⟩
def Bp : Sig := ⟨[.val false (.int .i64) .leaf, .val false .bool .leaf], [.val false .str .leaf, .val false .str .leaf]⟩
def Bx : Sig := ⟨[], [.val false (.sl Dp) (.node .own .leaf)]⟩
def B9 : Sig := ⟨[.val false .str .leaf], [.val false (.sl .str) (.node .own .leaf), .val false .bool .leaf]⟩
def AO : Sig := ⟨[.val true Dp .leaf, .val false (.sl .str) (.node .brw .leaf)], [.val true AJ .leaf, .val false .bool .leaf]⟩
def Ca : Sig := ⟨[.val false (.int .u8) .leaf], [.val false .bool .leaf]⟩
def Cn : Sig := ⟨[.val false (.int .u8) .leaf], [.val false .str .leaf]⟩
def Fg : Sig := ⟨[.val false (.int .i64) .leaf], [.val false .str .leaf]⟩
def A6 : Sig := ⟨[.ptr (.pair .str (.int .i64)) .leaf], [.val false .str .leaf, .val false .bool .leaf]⟩
def Cf : Sig := ⟨[.val false .str .leaf, .val false (.int .i64) .leaf], [.val false (.int .i64) .leaf, .val false (.int .i64) .leaf, .val false .bool .leaf]⟩
def AR : Sig := ⟨[.ptr (.pair .str (.int .i64)) .leaf], [.val false .str .leaf, .val false .bool .leaf]⟩
def BL : Sig := ⟨[.val false .str .leaf, .val false (.int .i64) .leaf], [.val false .bool .leaf]⟩
def AQ : Sig := ⟨[.ptr (.pair .str (.int .i64)) .leaf], [.val false (.int .u8) .leaf, .val false .bool .leaf]⟩
def A2 : Sig := ⟨[.ptr (.pair .str (.int .i64)) .leaf], [.val false (.int .u8) .leaf, .val false .bool .leaf]⟩
abbrev zS0 : String := "mergelens/mergelensgen.Mod"
abbrev zS1 : String := "mergelens/command.Parse"
abbrev zS2 : String := "mergelens/scan.Quote"
abbrev zS3 : String := "mergelens/mergelensgen.At"
abbrev zS4 : String := "(mergelens/command.form).read"
abbrev zS5 : String := "mergelens/mergelenslaw32.awake"
abbrev zS6 : String := "mergelens/scan.digit"
abbrev zS7 : String := "mergelens/mergelensref32.Form"
abbrev zS8 : String := "mergelens/mergelenslaw32.made"
abbrev zS9 : String := "mergelens/command.Format"
abbrev RN : String := "mergelens/command.forms"
abbrev Uc : String := "mergelens/scan.plain"
abbrev Ud : String := "(*mergelens/scan.reader).octal"
abbrev Ue : String := "(*mergelens/scan.reader).escape"
abbrev VG : String := "(*mergelens/scan.reader).quoted"
abbrev VH : String := "(*mergelens/scan.reader).word"
abbrev VI : String := "mergelens/scan.Words"
abbrev VJ : String := "mergelens/mergelensgen.Line"
abbrev VK : String := "mergelens/mergelensgen.Spoiled"
abbrev VL : String := "mergelens/mergelenslaw32.CommandRoundTrip"
end Go.VS
