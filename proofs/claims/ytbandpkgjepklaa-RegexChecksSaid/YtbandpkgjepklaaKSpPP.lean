/- The program's Parse: what is asked of it. -/
import Derived.Test.YtbandpkgjepklaaKSpPatg
set_option linter.unusedVariables false
set_option linter.unusedSimpArgs false
namespace Go.VS
def Hk (P : Pg) : Prop := ∀ s : Bs, Fn P Y0 Cc s fun (d : List Node × Int) _ => d = Dy s
def QX (P : Pg) : Prop := ∀ kp : Value → Prop, L4 ⟨P.toProgram, kp⟩
end Go.VS
