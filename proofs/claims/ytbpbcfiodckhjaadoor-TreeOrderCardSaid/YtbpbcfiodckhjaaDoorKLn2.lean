/- The program has these functions. -/
import Derived.Test.YtbpbcfiodckhjaaDoorKGf0
import Derived.Test.YtbpbcfiodckhjaaDoorProg
import Derived.KernelRfl
set_option linter.unusedVariables false
set_option linter.unusedSimpArgs false
namespace Go.VS
theorem Sf {kp : Value → Prop} : Has ⟨Go.Proofs.Tryd.prog, kp⟩ GU := BH 15 Go.Proofs.Tryd.f15 (by kernel_rfl) (by kernel_rfl) (by kernel_rfl) (by decide) (by kernel_rfl) (by kernel_rfl)
theorem Qw {kp : Value → Prop} : Has ⟨Go.Proofs.Tryd.prog, kp⟩ F6 := BH 30 Go.Proofs.Tryd.f30 (by kernel_rfl) (by kernel_rfl) (by kernel_rfl) (by decide) (by kernel_rfl) (by kernel_rfl)
theorem Abx {kp : Value → Prop} : Has ⟨Go.Proofs.Tryd.prog, kp⟩ AaR := BH 37 Go.Proofs.Tryd.f37 (by kernel_rfl) (by kernel_rfl) (by kernel_rfl) (by decide) (by kernel_rfl) (by kernel_rfl)
theorem NO {kp : Value → Prop} : Has ⟨Go.Proofs.Tryd.prog, kp⟩ EA := BH 19 Go.Proofs.Tryd.f19 (by kernel_rfl) (by kernel_rfl) (by kernel_rfl) (by decide) (by kernel_rfl) (by kernel_rfl)
theorem AcQ {kp : Value → Prop} : Has ⟨Go.Proofs.Tryd.prog, kp⟩ AcM := BH 13 Go.Proofs.Tryd.f13 (by kernel_rfl) (by kernel_rfl) (by kernel_rfl) (by decide) (by kernel_rfl) (by kernel_rfl)
end Go.VS
