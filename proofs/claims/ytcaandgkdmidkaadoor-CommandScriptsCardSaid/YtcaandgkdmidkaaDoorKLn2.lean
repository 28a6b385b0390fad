/- The program has these functions. -/
import Derived.Test.YtcaandgkdmidkaaDoorKGf0
import Derived.Test.YtcaandgkdmidkaaDoorKGf1
import Derived.Test.YtcaandgkdmidkaaDoorProg
import Derived.KernelRfl
set_option linter.unusedVariables false
set_option linter.unusedSimpArgs false
namespace Go.VS
theorem OH {kp : Value → Prop} : Has ⟨Go.Proofs.Tryd.prog, kp⟩ ET := BV 55 Go.Proofs.Tryd.f55 (by kernel_rfl) (by kernel_rfl) (by kernel_rfl) (by decide) (by kernel_rfl) (by kernel_rfl)
theorem AaY {kp : Value → Prop} : Has ⟨Go.Proofs.Tryd.prog, kp⟩ Zo := BV 79 Go.Proofs.Tryd.f79 (by kernel_rfl) (by kernel_rfl) (by kernel_rfl) (by decide) (by kernel_rfl) (by kernel_rfl)
theorem Mo {kp : Value → Prop} : Has ⟨Go.Proofs.Tryd.prog, kp⟩ DI := BV 26 Go.Proofs.Tryd.f26 (by kernel_rfl) (by kernel_rfl) (by kernel_rfl) (by decide) (by kernel_rfl) (by kernel_rfl)
theorem AaT {kp : Value → Prop} : Has ⟨Go.Proofs.Tryd.prog, kp⟩ Zh := BV 59 Go.Proofs.Tryd.f59 (by kernel_rfl) (by kernel_rfl) (by kernel_rfl) (by decide) (by kernel_rfl) (by kernel_rfl)
theorem Yx {kp : Value → Prop} : Has ⟨Go.Proofs.Tryd.prog, kp⟩ Yp := BV 28 Go.Proofs.Tryd.f28 (by kernel_rfl) (by kernel_rfl) (by kernel_rfl) (by decide) (by kernel_rfl) (by kernel_rfl)
theorem OE {kp : Value → Prop} : Has ⟨Go.Proofs.Tryd.prog, kp⟩ ER := BV 24 Go.Proofs.Tryd.f24 (by kernel_rfl) (by kernel_rfl) (by kernel_rfl) (by decide) (by kernel_rfl) (by kernel_rfl)
theorem Ni {kp : Value → Prop} : Has ⟨Go.Proofs.Tryd.prog, kp⟩ Ek := BV 23 Go.Proofs.Tryd.f23 (by kernel_rfl) (by kernel_rfl) (by kernel_rfl) (by decide) (by kernel_rfl) (by kernel_rfl)
theorem Aav {kp : Value → Prop} : Has ⟨Go.Proofs.Tryd.prog, kp⟩ Y4 := BV 58 Go.Proofs.Tryd.f58 (by kernel_rfl) (by kernel_rfl) (by kernel_rfl) (by decide) (by kernel_rfl) (by kernel_rfl)
theorem Aaq {kp : Value → Prop} : Has ⟨Go.Proofs.Tryd.prog, kp⟩ Y3 := BV 30 Go.Proofs.Tryd.f30 (by kernel_rfl) (by kernel_rfl) (by kernel_rfl) (by decide) (by kernel_rfl) (by kernel_rfl)
theorem AaI {kp : Value → Prop} : Has ⟨Go.Proofs.Tryd.prog, kp⟩ Y8 := BV 31 Go.Proofs.Tryd.f31 (by kernel_rfl) (by kernel_rfl) (by kernel_rfl) (by decide) (by kernel_rfl) (by kernel_rfl)
theorem AaG {kp : Value → Prop} : Has ⟨Go.Proofs.Tryd.prog, kp⟩ Y6 := BV 32 Go.Proofs.Tryd.f32 (by kernel_rfl) (by kernel_rfl) (by kernel_rfl) (by decide) (by kernel_rfl) (by kernel_rfl)
theorem AaW {kp : Value → Prop} : Has ⟨Go.Proofs.Tryd.prog, kp⟩ Zm := BV 29 Go.Proofs.Tryd.f29 (by kernel_rfl) (by kernel_rfl) (by kernel_rfl) (by decide) (by kernel_rfl) (by kernel_rfl)
theorem ZJ {kp : Value → Prop} : Has ⟨Go.Proofs.Tryd.prog, kp⟩ YN := BV 9 Go.Proofs.Tryd.f9 (by kernel_rfl) (by kernel_rfl) (by kernel_rfl) (by decide) (by kernel_rfl) (by kernel_rfl)
end Go.VS
