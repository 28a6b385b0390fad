/- The program has these functions. -/
import Derived.Test.YtcaandgkdmidkaaDoorKGf0
import Derived.Test.YtcaandgkdmidkaaDoorProg
import Derived.KernelRfl
set_option linter.unusedVariables false
set_option linter.unusedSimpArgs false
namespace Go.VS
theorem Lq {kp : Value → Prop} : Has ⟨Go.Proofs.Tryd.prog, kp⟩ Dv := BV 53 Go.Proofs.Tryd.f53 (by kernel_rfl) (by kernel_rfl) (by kernel_rfl) (by decide) (by kernel_rfl) (by kernel_rfl)
theorem Lp {kp : Value → Prop} : Has ⟨Go.Proofs.Tryd.prog, kp⟩ Du := BV 27 Go.Proofs.Tryd.f27 (by kernel_rfl) (by kernel_rfl) (by kernel_rfl) (by decide) (by kernel_rfl) (by kernel_rfl)
theorem OG {kp : Value → Prop} : Has ⟨Go.Proofs.Tryd.prog, kp⟩ ES := BV 52 Go.Proofs.Tryd.f52 (by kernel_rfl) (by kernel_rfl) (by kernel_rfl) (by decide) (by kernel_rfl) (by kernel_rfl)
theorem OH {kp : Value → Prop} : Has ⟨Go.Proofs.Tryd.prog, kp⟩ ET := BV 55 Go.Proofs.Tryd.f55 (by kernel_rfl) (by kernel_rfl) (by kernel_rfl) (by decide) (by kernel_rfl) (by kernel_rfl)
theorem Mo {kp : Value → Prop} : Has ⟨Go.Proofs.Tryd.prog, kp⟩ DI := BV 26 Go.Proofs.Tryd.f26 (by kernel_rfl) (by kernel_rfl) (by kernel_rfl) (by decide) (by kernel_rfl) (by kernel_rfl)
theorem OE {kp : Value → Prop} : Has ⟨Go.Proofs.Tryd.prog, kp⟩ ER := BV 24 Go.Proofs.Tryd.f24 (by kernel_rfl) (by kernel_rfl) (by kernel_rfl) (by decide) (by kernel_rfl) (by kernel_rfl)
theorem Ni {kp : Value → Prop} : Has ⟨Go.Proofs.Tryd.prog, kp⟩ Ek := BV 23 Go.Proofs.Tryd.f23 (by kernel_rfl) (by kernel_rfl) (by kernel_rfl) (by decide) (by kernel_rfl) (by kernel_rfl)
theorem GL {kp : Value → Prop} : Has ⟨Go.Proofs.Tryd.prog, kp⟩ BQ := BV 7 Go.Proofs.Tryd.f7 (by kernel_rfl) (by kernel_rfl) (by kernel_rfl) (by decide) (by kernel_rfl) (by kernel_rfl)
end Go.VS
