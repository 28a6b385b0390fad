/- The program has these functions. -/
import Derived.Test.YtbpbcfiodckhjaaDoorKGf0
import Derived.Test.YtbpbcfiodckhjaaDoorProg
import Derived.KernelRfl
set_option linter.unusedVariables false
set_option linter.unusedSimpArgs false
namespace Go.VS
theorem Ud {kp : Value → Prop} : Has ⟨Go.Proofs.Tryd.prog, kp⟩ H9 := BH 20 Go.Proofs.Tryd.f20 (by kernel_rfl) (by kernel_rfl) (by kernel_rfl) (by decide) (by kernel_rfl) (by kernel_rfl)
theorem Vx {kp : Value → Prop} : Has ⟨Go.Proofs.Tryd.prog, kp⟩ Jr := BH 41 Go.Proofs.Tryd.f41 (by kernel_rfl) (by kernel_rfl) (by kernel_rfl) (by decide) (by kernel_rfl) (by kernel_rfl)
theorem Ps {kp : Value → Prop} : Has ⟨Go.Proofs.Tryd.prog, kp⟩ E7 := BH 78 Go.Proofs.Tryd.f78 (by kernel_rfl) (by kernel_rfl) (by kernel_rfl) (by decide) (by kernel_rfl) (by kernel_rfl)
theorem Pr {kp : Value → Prop} : Has ⟨Go.Proofs.Tryd.prog, kp⟩ E6 := BH 53 Go.Proofs.Tryd.f53 (by kernel_rfl) (by kernel_rfl) (by kernel_rfl) (by decide) (by kernel_rfl) (by kernel_rfl)
theorem MM {kp : Value → Prop} : Has ⟨Go.Proofs.Tryd.prog, kp⟩ DZ := BH 50 Go.Proofs.Tryd.f50 (by kernel_rfl) (by kernel_rfl) (by kernel_rfl) (by decide) (by kernel_rfl) (by kernel_rfl)
theorem MN {kp : Value → Prop} : Has ⟨Go.Proofs.Tryd.prog, kp⟩ D0 := BH 52 Go.Proofs.Tryd.f52 (by kernel_rfl) (by kernel_rfl) (by kernel_rfl) (by decide) (by kernel_rfl) (by kernel_rfl)
theorem Cq {kp : Value → Prop} : Has ⟨Go.Proofs.Tryd.prog, kp⟩ AH := BH 75 Go.Proofs.Tryd.f75 (by kernel_rfl) (by kernel_rfl) (by kernel_rfl) (by decide) (by kernel_rfl) (by kernel_rfl)
end Go.VS
