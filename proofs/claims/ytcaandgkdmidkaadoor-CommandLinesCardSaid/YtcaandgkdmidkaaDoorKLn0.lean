/- The program has these functions. -/
import Derived.Test.YtcaandgkdmidkaaDoorKGf0
import Derived.Test.YtcaandgkdmidkaaDoorKGf1
import Derived.Test.YtcaandgkdmidkaaDoorProg
import Derived.KernelRfl
set_option linter.unusedVariables false
set_option linter.unusedSimpArgs false
namespace Go.VS
theorem Td {kp : Value → Prop} : Has ⟨Go.Proofs.Tryd.prog, kp⟩ HT := BV 15 Go.Proofs.Tryd.f15 (by kernel_rfl) (by kernel_rfl) (by kernel_rfl) (by decide) (by kernel_rfl) (by kernel_rfl)
theorem UY {kp : Value → Prop} : Has ⟨Go.Proofs.Tryd.prog, kp⟩ Jb := BV 18 Go.Proofs.Tryd.f18 (by kernel_rfl) (by kernel_rfl) (by kernel_rfl) (by decide) (by kernel_rfl) (by kernel_rfl)
theorem OJ {kp : Value → Prop} : Has ⟨Go.Proofs.Tryd.prog, kp⟩ EV := BV 95 Go.Proofs.Tryd.f95 (by kernel_rfl) (by kernel_rfl) (by kernel_rfl) (by decide) (by kernel_rfl) (by kernel_rfl)
theorem Nn {kp : Value → Prop} : Has ⟨Go.Proofs.Tryd.prog, kp⟩ Eo := BV 76 Go.Proofs.Tryd.f76 (by kernel_rfl) (by kernel_rfl) (by kernel_rfl) (by decide) (by kernel_rfl) (by kernel_rfl)
theorem Mp {kp : Value → Prop} : Has ⟨Go.Proofs.Tryd.prog, kp⟩ DJ := BV 69 Go.Proofs.Tryd.f69 (by kernel_rfl) (by kernel_rfl) (by kernel_rfl) (by decide) (by kernel_rfl) (by kernel_rfl)
theorem Mn {kp : Value → Prop} : Has ⟨Go.Proofs.Tryd.prog, kp⟩ DH := BV 49 Go.Proofs.Tryd.f49 (by kernel_rfl) (by kernel_rfl) (by kernel_rfl) (by decide) (by kernel_rfl) (by kernel_rfl)
theorem OK {kp : Value → Prop} : Has ⟨Go.Proofs.Tryd.prog, kp⟩ EW := BV 67 Go.Proofs.Tryd.f67 (by kernel_rfl) (by kernel_rfl) (by kernel_rfl) (by decide) (by kernel_rfl) (by kernel_rfl)
theorem Nj {kp : Value → Prop} : Has ⟨Go.Proofs.Tryd.prog, kp⟩ El := BV 74 Go.Proofs.Tryd.f74 (by kernel_rfl) (by kernel_rfl) (by kernel_rfl) (by decide) (by kernel_rfl) (by kernel_rfl)
theorem Nk {kp : Value → Prop} : Has ⟨Go.Proofs.Tryd.prog, kp⟩ Em := BV 48 Go.Proofs.Tryd.f48 (by kernel_rfl) (by kernel_rfl) (by kernel_rfl) (by decide) (by kernel_rfl) (by kernel_rfl)
theorem Q7 {kp : Value → Prop} : Has ⟨Go.Proofs.Tryd.prog, kp⟩ GG := BV 17 Go.Proofs.Tryd.f17 (by kernel_rfl) (by kernel_rfl) (by kernel_rfl) (by decide) (by kernel_rfl) (by kernel_rfl)
end Go.VS
