/- The program has these functions. -/
import Derived.Test.YtbpbcfiodckhjaaDoorKGf0
import Derived.Test.YtbpbcfiodckhjaaDoorProg
import Derived.KernelRfl
set_option linter.unusedVariables false
set_option linter.unusedSimpArgs false
namespace Go.VS
theorem ML {kp : Value → Prop} : Has ⟨Go.Proofs.Tryd.prog, kp⟩ DY := BH 34 Go.Proofs.Tryd.f34 (by kernel_rfl) (by kernel_rfl) (by kernel_rfl) (by decide) (by kernel_rfl) (by kernel_rfl)
theorem Po {kp : Value → Prop} : Has ⟨Go.Proofs.Tryd.prog, kp⟩ E4 := BH 32 Go.Proofs.Tryd.f32 (by kernel_rfl) (by kernel_rfl) (by kernel_rfl) (by decide) (by kernel_rfl) (by kernel_rfl)
theorem Sg {kp : Value → Prop} : Has ⟨Go.Proofs.Tryd.prog, kp⟩ GV := BH 25 Go.Proofs.Tryd.f25 (by kernel_rfl) (by kernel_rfl) (by kernel_rfl) (by decide) (by kernel_rfl) (by kernel_rfl)
theorem Sf {kp : Value → Prop} : Has ⟨Go.Proofs.Tryd.prog, kp⟩ GU := BH 15 Go.Proofs.Tryd.f15 (by kernel_rfl) (by kernel_rfl) (by kernel_rfl) (by decide) (by kernel_rfl) (by kernel_rfl)
theorem Qw {kp : Value → Prop} : Has ⟨Go.Proofs.Tryd.prog, kp⟩ F6 := BH 30 Go.Proofs.Tryd.f30 (by kernel_rfl) (by kernel_rfl) (by kernel_rfl) (by decide) (by kernel_rfl) (by kernel_rfl)
theorem Pn {kp : Value → Prop} : Has ⟨Go.Proofs.Tryd.prog, kp⟩ E3 := BH 33 Go.Proofs.Tryd.f33 (by kernel_rfl) (by kernel_rfl) (by kernel_rfl) (by decide) (by kernel_rfl) (by kernel_rfl)
theorem NO {kp : Value → Prop} : Has ⟨Go.Proofs.Tryd.prog, kp⟩ EA := BH 19 Go.Proofs.Tryd.f19 (by kernel_rfl) (by kernel_rfl) (by kernel_rfl) (by decide) (by kernel_rfl) (by kernel_rfl)
theorem NP {kp : Value → Prop} : Has ⟨Go.Proofs.Tryd.prog, kp⟩ EB := BH 24 Go.Proofs.Tryd.f24 (by kernel_rfl) (by kernel_rfl) (by kernel_rfl) (by decide) (by kernel_rfl) (by kernel_rfl)
theorem JO {kp : Value → Prop} : Has ⟨Go.Proofs.Tryd.prog, kp⟩ Dj := BH 7 Go.Proofs.Tryd.f7 (by kernel_rfl) (by kernel_rfl) (by kernel_rfl) (by decide) (by kernel_rfl) (by kernel_rfl)
end Go.VS
