/- The program has these functions. -/
import Derived.Test.YtbpbcfiodckhjaaDoorKGf0
import Derived.Test.YtbpbcfiodckhjaaDoorProg
import Derived.KernelRfl
set_option linter.unusedVariables false
set_option linter.unusedSimpArgs false
namespace Go.VS
theorem KE {kp : Value → Prop} : Has ⟨Go.Proofs.Tryd.prog, kp⟩ Dx := Dc 52 Go.Proofs.Tryd.f52 (by kernel_rfl) (by kernel_rfl) (by kernel_rfl) (by decide) (by kernel_rfl) (by kernel_rfl)
theorem B5 {kp : Value → Prop} : Has ⟨Go.Proofs.Tryd.prog, kp⟩ AE := Dc 75 Go.Proofs.Tryd.f75 (by kernel_rfl) (by kernel_rfl) (by kernel_rfl) (by decide) (by kernel_rfl) (by kernel_rfl)
theorem B6 {kp : Value → Prop} : Has ⟨Go.Proofs.Tryd.prog, kp⟩ AF := Dc 75 Go.Proofs.Tryd.f75 (by kernel_rfl) (by kernel_rfl) (by kernel_rfl) (by decide) (by kernel_rfl) (by kernel_rfl)
theorem BP {kp : Value → Prop} : Has ⟨Go.Proofs.Tryd.prog, kp⟩ AA := Dc 49 Go.Proofs.Tryd.f49 (by kernel_rfl) (by kernel_rfl) (by kernel_rfl) (by decide) (by kernel_rfl) (by kernel_rfl)
theorem BQ {kp : Value → Prop} : Has ⟨Go.Proofs.Tryd.prog, kp⟩ AB := Dc 49 Go.Proofs.Tryd.f49 (by kernel_rfl) (by kernel_rfl) (by kernel_rfl) (by decide) (by kernel_rfl) (by kernel_rfl)
theorem MP {kp : Value → Prop} : Has ⟨Go.Proofs.Tryd.prog, kp⟩ Ew := Dc 28 Go.Proofs.Tryd.f28 (by kernel_rfl) (by kernel_rfl) (by kernel_rfl) (by decide) (by kernel_rfl) (by kernel_rfl)
theorem V0 {kp : Value → Prop} : Has ⟨Go.Proofs.Tryd.prog, kp⟩ Vk := Dc 54 Go.Proofs.Tryd.f54 (by kernel_rfl) (by kernel_rfl) (by kernel_rfl) (by decide) (by kernel_rfl) (by kernel_rfl)
theorem VY {kp : Value → Prop} : Has ⟨Go.Proofs.Tryd.prog, kp⟩ Vi := Dc 55 Go.Proofs.Tryd.f55 (by kernel_rfl) (by kernel_rfl) (by kernel_rfl) (by decide) (by kernel_rfl) (by kernel_rfl)
end Go.VS
