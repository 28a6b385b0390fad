/- The program has these functions. -/
import Derived.Test.YtbpbcfiodckhjaaDoorKGf0
import Derived.Test.YtbpbcfiodckhjaaDoorProg
import Derived.KernelRfl
set_option linter.unusedVariables false
set_option linter.unusedSimpArgs false
namespace Go.VS
theorem QA {kp : Value → Prop} : Has ⟨Go.Proofs.Tryd.prog, kp⟩ G1 := Dc 20 Go.Proofs.Tryd.f20 (by kernel_rfl) (by kernel_rfl) (by kernel_rfl) (by decide) (by kernel_rfl) (by kernel_rfl)
theorem RN {kp : Value → Prop} : Has ⟨Go.Proofs.Tryd.prog, kp⟩ HR := Dc 41 Go.Proofs.Tryd.f41 (by kernel_rfl) (by kernel_rfl) (by kernel_rfl) (by decide) (by kernel_rfl) (by kernel_rfl)
theorem VZ {kp : Value → Prop} : Has ⟨Go.Proofs.Tryd.prog, kp⟩ Vj := Dc 42 Go.Proofs.Tryd.f42 (by kernel_rfl) (by kernel_rfl) (by kernel_rfl) (by decide) (by kernel_rfl) (by kernel_rfl)
theorem Wi {kp : Value → Prop} : Has ⟨Go.Proofs.Tryd.prog, kp⟩ Vv := Dc 25 Go.Proofs.Tryd.f25 (by kernel_rfl) (by kernel_rfl) (by kernel_rfl) (by decide) (by kernel_rfl) (by kernel_rfl)
end Go.VS
