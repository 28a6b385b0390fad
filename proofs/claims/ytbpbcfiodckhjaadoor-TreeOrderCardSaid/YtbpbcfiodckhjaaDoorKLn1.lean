/- The program has these functions. -/
import Derived.Test.YtbpbcfiodckhjaaDoorKGf0
import Derived.Test.YtbpbcfiodckhjaaDoorProg
import Derived.KernelRfl
set_option linter.unusedVariables false
set_option linter.unusedSimpArgs false
namespace Go.VS
theorem Cr {kp : Value → Prop} : Has ⟨Go.Proofs.Tryd.prog, kp⟩ AJ := BH 75 Go.Proofs.Tryd.f75 (by kernel_rfl) (by kernel_rfl) (by kernel_rfl) (by decide) (by kernel_rfl) (by kernel_rfl)
theorem Ca {kp : Value → Prop} : Has ⟨Go.Proofs.Tryd.prog, kp⟩ AE := BH 49 Go.Proofs.Tryd.f49 (by kernel_rfl) (by kernel_rfl) (by kernel_rfl) (by decide) (by kernel_rfl) (by kernel_rfl)
theorem Cb {kp : Value → Prop} : Has ⟨Go.Proofs.Tryd.prog, kp⟩ AF := BH 49 Go.Proofs.Tryd.f49 (by kernel_rfl) (by kernel_rfl) (by kernel_rfl) (by decide) (by kernel_rfl) (by kernel_rfl)
theorem Pt {kp : Value → Prop} : Has ⟨Go.Proofs.Tryd.prog, kp⟩ E8 := BH 28 Go.Proofs.Tryd.f28 (by kernel_rfl) (by kernel_rfl) (by kernel_rfl) (by decide) (by kernel_rfl) (by kernel_rfl)
theorem Qx {kp : Value → Prop} : Has ⟨Go.Proofs.Tryd.prog, kp⟩ F7 := BH 26 Go.Proofs.Tryd.f26 (by kernel_rfl) (by kernel_rfl) (by kernel_rfl) (by decide) (by kernel_rfl) (by kernel_rfl)
theorem Qy {kp : Value → Prop} : Has ⟨Go.Proofs.Tryd.prog, kp⟩ F8 := BH 56 Go.Proofs.Tryd.f56 (by kernel_rfl) (by kernel_rfl) (by kernel_rfl) (by decide) (by kernel_rfl) (by kernel_rfl)
theorem Sg {kp : Value → Prop} : Has ⟨Go.Proofs.Tryd.prog, kp⟩ GV := BH 25 Go.Proofs.Tryd.f25 (by kernel_rfl) (by kernel_rfl) (by kernel_rfl) (by decide) (by kernel_rfl) (by kernel_rfl)
end Go.VS
