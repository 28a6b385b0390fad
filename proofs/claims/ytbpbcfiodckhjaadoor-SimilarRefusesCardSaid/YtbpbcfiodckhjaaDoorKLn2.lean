/- The program has these functions. -/
import Derived.Test.YtbpbcfiodckhjaaDoorKGf0
import Derived.Test.YtbpbcfiodckhjaaDoorProg
import Derived.KernelRfl
set_option linter.unusedVariables false
set_option linter.unusedSimpArgs false
namespace Go.VS
theorem Qy {kp : Value → Prop} : Has ⟨Go.Proofs.Tryd.prog, kp⟩ F8 := BH 56 Go.Proofs.Tryd.f56 (by kernel_rfl) (by kernel_rfl) (by kernel_rfl) (by decide) (by kernel_rfl) (by kernel_rfl)
theorem NU {kp : Value → Prop} : Has ⟨Go.Proofs.Tryd.prog, kp⟩ EG := BH 61 Go.Proofs.Tryd.f61 (by kernel_rfl) (by kernel_rfl) (by kernel_rfl) (by decide) (by kernel_rfl) (by kernel_rfl)
theorem ML {kp : Value → Prop} : Has ⟨Go.Proofs.Tryd.prog, kp⟩ DY := BH 34 Go.Proofs.Tryd.f34 (by kernel_rfl) (by kernel_rfl) (by kernel_rfl) (by decide) (by kernel_rfl) (by kernel_rfl)
theorem Po {kp : Value → Prop} : Has ⟨Go.Proofs.Tryd.prog, kp⟩ E4 := BH 32 Go.Proofs.Tryd.f32 (by kernel_rfl) (by kernel_rfl) (by kernel_rfl) (by decide) (by kernel_rfl) (by kernel_rfl)
theorem Z4 {kp : Value → Prop} : Has ⟨Go.Proofs.Tryd.prog, kp⟩ ZG := BH 14 Go.Proofs.Tryd.f14 (by kernel_rfl) (by kernel_rfl) (by kernel_rfl) (by decide) (by kernel_rfl) (by kernel_rfl)
theorem ZM {kp : Value → Prop} : Has ⟨Go.Proofs.Tryd.prog, kp⟩ ZA := BH 10 Go.Proofs.Tryd.f10 (by kernel_rfl) (by kernel_rfl) (by kernel_rfl) (by decide) (by kernel_rfl) (by kernel_rfl)
end Go.VS
