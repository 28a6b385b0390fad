/- The program has these functions. -/
import Derived.Test.YtbpbcfiodckhjaaDoorKGf0
import Derived.Test.YtbpbcfiodckhjaaDoorProg
import Derived.KernelRfl
set_option linter.unusedVariables false
set_option linter.unusedSimpArgs false
namespace Go.VS
theorem XP {kp : Value → Prop} : Has ⟨Go.Proofs.Tryd.prog, kp⟩ WW := Dc 14 Go.Proofs.Tryd.f14 (by kernel_rfl) (by kernel_rfl) (by kernel_rfl) (by decide) (by kernel_rfl) (by kernel_rfl)
theorem Yd {kp : Value → Prop} : Has ⟨Go.Proofs.Tryd.prog, kp⟩ Xf := Dc 16 Go.Proofs.Tryd.f16 (by kernel_rfl) (by kernel_rfl) (by kernel_rfl) (by decide) (by kernel_rfl) (by kernel_rfl)
theorem YH {kp : Value → Prop} : Has ⟨Go.Proofs.Tryd.prog, kp⟩ YD := Dc 4 Go.Proofs.Tryd.f4 (by kernel_rfl) (by kernel_rfl) (by kernel_rfl) (by decide) (by kernel_rfl) (by kernel_rfl)
end Go.VS
