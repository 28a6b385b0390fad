/- The program has these functions. -/
import Derived.Test.YtbpbcfiodckhjaaDoorKGf0
import Derived.Test.YtbpbcfiodckhjaaDoorProg
import Derived.KernelRfl
set_option linter.unusedVariables false
set_option linter.unusedSimpArgs false
namespace Go.VS
theorem NQ {kp : Value → Prop} : Has ⟨Go.Proofs.Tryd.prog, kp⟩ Fk := Dc 26 Go.Proofs.Tryd.f26 (by kernel_rfl) (by kernel_rfl) (by kernel_rfl) (by decide) (by kernel_rfl) (by kernel_rfl)
theorem MM {kp : Value → Prop} : Has ⟨Go.Proofs.Tryd.prog, kp⟩ Et := Dc 21 Go.Proofs.Tryd.f21 (by kernel_rfl) (by kernel_rfl) (by kernel_rfl) (by decide) (by kernel_rfl) (by kernel_rfl)
theorem Lz {kp : Value → Prop} : Has ⟨Go.Proofs.Tryd.prog, kp⟩ D6 := Dc 19 Go.Proofs.Tryd.f19 (by kernel_rfl) (by kernel_rfl) (by kernel_rfl) (by decide) (by kernel_rfl) (by kernel_rfl)
theorem Ic {kp : Value → Prop} : Has ⟨Go.Proofs.Tryd.prog, kp⟩ CR := Dc 5 Go.Proofs.Tryd.f5 (by kernel_rfl) (by kernel_rfl) (by kernel_rfl) (by decide) (by kernel_rfl) (by kernel_rfl)
end Go.VS
