/- The program has these functions. -/
import Derived.Test.YtcaandgkdmidkaaDoorKGf0
import Derived.Test.YtcaandgkdmidkaaDoorKGf1
import Derived.Test.YtcaandgkdmidkaaDoorProg
import Derived.KernelRfl
set_option linter.unusedVariables false
set_option linter.unusedSimpArgs false
namespace Go.VS
theorem OG {kp : Value → Prop} : Has ⟨Go.Proofs.Tryd.prog, kp⟩ ES := BV 52 Go.Proofs.Tryd.f52 (by kernel_rfl) (by kernel_rfl) (by kernel_rfl) (by decide) (by kernel_rfl) (by kernel_rfl)
theorem OH {kp : Value → Prop} : Has ⟨Go.Proofs.Tryd.prog, kp⟩ ET := BV 55 Go.Proofs.Tryd.f55 (by kernel_rfl) (by kernel_rfl) (by kernel_rfl) (by decide) (by kernel_rfl) (by kernel_rfl)
theorem Mo {kp : Value → Prop} : Has ⟨Go.Proofs.Tryd.prog, kp⟩ DI := BV 26 Go.Proofs.Tryd.f26 (by kernel_rfl) (by kernel_rfl) (by kernel_rfl) (by decide) (by kernel_rfl) (by kernel_rfl)
theorem OE {kp : Value → Prop} : Has ⟨Go.Proofs.Tryd.prog, kp⟩ ER := BV 24 Go.Proofs.Tryd.f24 (by kernel_rfl) (by kernel_rfl) (by kernel_rfl) (by decide) (by kernel_rfl) (by kernel_rfl)
theorem Ni {kp : Value → Prop} : Has ⟨Go.Proofs.Tryd.prog, kp⟩ Ek := BV 23 Go.Proofs.Tryd.f23 (by kernel_rfl) (by kernel_rfl) (by kernel_rfl) (by decide) (by kernel_rfl) (by kernel_rfl)
theorem Aav {kp : Value → Prop} : Has ⟨Go.Proofs.Tryd.prog, kp⟩ Y4 := BV 58 Go.Proofs.Tryd.f58 (by kernel_rfl) (by kernel_rfl) (by kernel_rfl) (by decide) (by kernel_rfl) (by kernel_rfl)
theorem Aaq {kp : Value → Prop} : Has ⟨Go.Proofs.Tryd.prog, kp⟩ Y3 := BV 30 Go.Proofs.Tryd.f30 (by kernel_rfl) (by kernel_rfl) (by kernel_rfl) (by decide) (by kernel_rfl) (by kernel_rfl)
theorem AaG {kp : Value → Prop} : Has ⟨Go.Proofs.Tryd.prog, kp⟩ Y6 := BV 32 Go.Proofs.Tryd.f32 (by kernel_rfl) (by kernel_rfl) (by kernel_rfl) (by decide) (by kernel_rfl) (by kernel_rfl)
theorem AcD {kp : Value → Prop} : Has ⟨Go.Proofs.Tryd.prog, kp⟩ Acy := BV 10 Go.Proofs.Tryd.f10 (by kernel_rfl) (by kernel_rfl) (by kernel_rfl) (by decide) (by kernel_rfl) (by kernel_rfl)
end Go.VS
