/- The program has these functions. -/
import Derived.Test.YtbpbcfiodckhjaaDoorKGf0
import Derived.Test.YtbpbcfiodckhjaaDoorProg
import Derived.KernelRfl
set_option linter.unusedVariables false
set_option linter.unusedSimpArgs false
namespace Go.VS
theorem Ca {kp : Value → Prop} : Has ⟨Go.Proofs.Tryd.prog, kp⟩ AE := BH 49 Go.Proofs.Tryd.f49 (by kernel_rfl) (by kernel_rfl) (by kernel_rfl) (by decide) (by kernel_rfl) (by kernel_rfl)
theorem Cb {kp : Value → Prop} : Has ⟨Go.Proofs.Tryd.prog, kp⟩ AF := BH 49 Go.Proofs.Tryd.f49 (by kernel_rfl) (by kernel_rfl) (by kernel_rfl) (by decide) (by kernel_rfl) (by kernel_rfl)
theorem Pt {kp : Value → Prop} : Has ⟨Go.Proofs.Tryd.prog, kp⟩ E8 := BH 28 Go.Proofs.Tryd.f28 (by kernel_rfl) (by kernel_rfl) (by kernel_rfl) (by decide) (by kernel_rfl) (by kernel_rfl)
theorem NS {kp : Value → Prop} : Has ⟨Go.Proofs.Tryd.prog, kp⟩ EE := BH 54 Go.Proofs.Tryd.f54 (by kernel_rfl) (by kernel_rfl) (by kernel_rfl) (by decide) (by kernel_rfl) (by kernel_rfl)
theorem NQ {kp : Value → Prop} : Has ⟨Go.Proofs.Tryd.prog, kp⟩ EC := BH 55 Go.Proofs.Tryd.f55 (by kernel_rfl) (by kernel_rfl) (by kernel_rfl) (by decide) (by kernel_rfl) (by kernel_rfl)
theorem NT {kp : Value → Prop} : Has ⟨Go.Proofs.Tryd.prog, kp⟩ EF := BH 29 Go.Proofs.Tryd.f29 (by kernel_rfl) (by kernel_rfl) (by kernel_rfl) (by decide) (by kernel_rfl) (by kernel_rfl)
theorem Qx {kp : Value → Prop} : Has ⟨Go.Proofs.Tryd.prog, kp⟩ F7 := BH 26 Go.Proofs.Tryd.f26 (by kernel_rfl) (by kernel_rfl) (by kernel_rfl) (by decide) (by kernel_rfl) (by kernel_rfl)
theorem Pq {kp : Value → Prop} : Has ⟨Go.Proofs.Tryd.prog, kp⟩ E5 := BH 27 Go.Proofs.Tryd.f27 (by kernel_rfl) (by kernel_rfl) (by kernel_rfl) (by decide) (by kernel_rfl) (by kernel_rfl)
theorem Qy {kp : Value → Prop} : Has ⟨Go.Proofs.Tryd.prog, kp⟩ F8 := BH 56 Go.Proofs.Tryd.f56 (by kernel_rfl) (by kernel_rfl) (by kernel_rfl) (by decide) (by kernel_rfl) (by kernel_rfl)
theorem NU {kp : Value → Prop} : Has ⟨Go.Proofs.Tryd.prog, kp⟩ EG := BH 61 Go.Proofs.Tryd.f61 (by kernel_rfl) (by kernel_rfl) (by kernel_rfl) (by decide) (by kernel_rfl) (by kernel_rfl)
end Go.VS
