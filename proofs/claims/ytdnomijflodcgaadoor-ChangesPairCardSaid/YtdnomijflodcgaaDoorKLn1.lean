/- The program has these functions. -/
import Derived.Test.YtdnomijflodcgaaDoorKGf0
import Derived.Test.YtdnomijflodcgaaDoorKGf1
import Derived.Test.YtdnomijflodcgaaDoorProg
import Derived.KernelRfl
set_option linter.unusedVariables false
set_option linter.unusedSimpArgs false
namespace Go.VS
theorem Ru {kp : Value → Prop} : Has ⟨Go.Proofs.Tryd.prog, kp⟩ Gf := Bq 91 Go.Proofs.Tryd.f91 (by kernel_rfl) (by kernel_rfl) (by kernel_rfl) (by decide) (by kernel_rfl) (by kernel_rfl)
theorem Iv {kp : Value → Prop} : Has ⟨Go.Proofs.Tryd.prog, kp⟩ CU := Bq 158 Go.Proofs.Tryd.f158 (by kernel_rfl) (by kernel_rfl) (by kernel_rfl) (by decide) (by kernel_rfl) (by kernel_rfl)
theorem Hf {kp : Value → Prop} : Has ⟨Go.Proofs.Tryd.prog, kp⟩ Cn := Bq 131 Go.Proofs.Tryd.f131 (by kernel_rfl) (by kernel_rfl) (by kernel_rfl) (by decide) (by kernel_rfl) (by kernel_rfl)
theorem CF {kp : Value → Prop} : Has ⟨Go.Proofs.Tryd.prog, kp⟩ AK := Bq 132 Go.Proofs.Tryd.f132 (by kernel_rfl) (by kernel_rfl) (by kernel_rfl) (by decide) (by kernel_rfl) (by kernel_rfl)
theorem NH {kp : Value → Prop} : Has ⟨Go.Proofs.Tryd.prog, kp⟩ EG := Bq 130 Go.Proofs.Tryd.f130 (by kernel_rfl) (by kernel_rfl) (by kernel_rfl) (by decide) (by kernel_rfl) (by kernel_rfl)
theorem Cs {kp : Value → Prop} : Has ⟨Go.Proofs.Tryd.prog, kp⟩ AG := Bq 92 Go.Proofs.Tryd.f92 (by kernel_rfl) (by kernel_rfl) (by kernel_rfl) (by decide) (by kernel_rfl) (by kernel_rfl)
theorem PX {kp : Value → Prop} : Has ⟨Go.Proofs.Tryd.prog, kp⟩ FE := Bq 89 Go.Proofs.Tryd.f89 (by kernel_rfl) (by kernel_rfl) (by kernel_rfl) (by decide) (by kernel_rfl) (by kernel_rfl)
theorem CS {kp : Value → Prop} : Has ⟨Go.Proofs.Tryd.prog, kp⟩ AR := Bq 132 Go.Proofs.Tryd.f132 (by kernel_rfl) (by kernel_rfl) (by kernel_rfl) (by decide) (by kernel_rfl) (by kernel_rfl)
theorem PW {kp : Value → Prop} : Has ⟨Go.Proofs.Tryd.prog, kp⟩ FD := Bq 93 Go.Proofs.Tryd.f93 (by kernel_rfl) (by kernel_rfl) (by kernel_rfl) (by decide) (by kernel_rfl) (by kernel_rfl)
theorem CB {kp : Value → Prop} : Has ⟨Go.Proofs.Tryd.prog, kp⟩ AH := Bq 92 Go.Proofs.Tryd.f92 (by kernel_rfl) (by kernel_rfl) (by kernel_rfl) (by decide) (by kernel_rfl) (by kernel_rfl)
theorem PY {kp : Value → Prop} : Has ⟨Go.Proofs.Tryd.prog, kp⟩ FF := Bq 90 Go.Proofs.Tryd.f90 (by kernel_rfl) (by kernel_rfl) (by kernel_rfl) (by decide) (by kernel_rfl) (by kernel_rfl)
theorem SU {kp : Value → Prop} : Has ⟨Go.Proofs.Tryd.prog, kp⟩ Hl := Bq 61 Go.Proofs.Tryd.f61 (by kernel_rfl) (by kernel_rfl) (by kernel_rfl) (by decide) (by kernel_rfl) (by kernel_rfl)
theorem Ad0 {kp : Value → Prop} : Has ⟨Go.Proofs.Tryd.prog, kp⟩ AcJ := Bq 56 Go.Proofs.Tryd.f56 (by kernel_rfl) (by kernel_rfl) (by kernel_rfl) (by decide) (by kernel_rfl) (by kernel_rfl)
theorem AdZ {kp : Value → Prop} : Has ⟨Go.Proofs.Tryd.prog, kp⟩ AcI := Bq 28 Go.Proofs.Tryd.f28 (by kernel_rfl) (by kernel_rfl) (by kernel_rfl) (by decide) (by kernel_rfl) (by kernel_rfl)
end Go.VS
