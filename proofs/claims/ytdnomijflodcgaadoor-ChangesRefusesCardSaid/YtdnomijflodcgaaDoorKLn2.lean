/- The program has these functions. -/
import Derived.Test.YtdnomijflodcgaaDoorKGf0
import Derived.Test.YtdnomijflodcgaaDoorKGf1
import Derived.Test.YtdnomijflodcgaaDoorProg
import Derived.KernelRfl
set_option linter.unusedVariables false
set_option linter.unusedSimpArgs false
namespace Go.VS
theorem PY {kp : Value → Prop} : Has ⟨Go.Proofs.Tryd.prog, kp⟩ FF := Bq 90 Go.Proofs.Tryd.f90 (by kernel_rfl) (by kernel_rfl) (by kernel_rfl) (by decide) (by kernel_rfl) (by kernel_rfl)
theorem SU {kp : Value → Prop} : Has ⟨Go.Proofs.Tryd.prog, kp⟩ Hl := Bq 61 Go.Proofs.Tryd.f61 (by kernel_rfl) (by kernel_rfl) (by kernel_rfl) (by decide) (by kernel_rfl) (by kernel_rfl)
theorem P3 {kp : Value → Prop} : Has ⟨Go.Proofs.Tryd.prog, kp⟩ FK := Bq 16 Go.Proofs.Tryd.f16 (by kernel_rfl) (by kernel_rfl) (by kernel_rfl) (by decide) (by kernel_rfl) (by kernel_rfl)
theorem Rv {kp : Value → Prop} : Has ⟨Go.Proofs.Tryd.prog, kp⟩ Gg := Bq 37 Go.Proofs.Tryd.f37 (by kernel_rfl) (by kernel_rfl) (by kernel_rfl) (by decide) (by kernel_rfl) (by kernel_rfl)
theorem NG {kp : Value → Prop} : Has ⟨Go.Proofs.Tryd.prog, kp⟩ EF := Bq 38 Go.Proofs.Tryd.f38 (by kernel_rfl) (by kernel_rfl) (by kernel_rfl) (by decide) (by kernel_rfl) (by kernel_rfl)
theorem X9 {kp : Value → Prop} : Has ⟨Go.Proofs.Tryd.prog, kp⟩ Lm := Bq 62 Go.Proofs.Tryd.f62 (by kernel_rfl) (by kernel_rfl) (by kernel_rfl) (by decide) (by kernel_rfl) (by kernel_rfl)
theorem I3 {kp : Value → Prop} : Has ⟨Go.Proofs.Tryd.prog, kp⟩ DV := Bq 14 Go.Proofs.Tryd.f14 (by kernel_rfl) (by kernel_rfl) (by kernel_rfl) (by decide) (by kernel_rfl) (by kernel_rfl)
theorem Js {kp : Value → Prop} : Has ⟨Go.Proofs.Tryd.prog, kp⟩ Ec := Bq 15 Go.Proofs.Tryd.f15 (by kernel_rfl) (by kernel_rfl) (by kernel_rfl) (by decide) (by kernel_rfl) (by kernel_rfl)
theorem LH {kp : Value → Prop} : Has ⟨Go.Proofs.Tryd.prog, kp⟩ D9 := Bq 40 Go.Proofs.Tryd.f40 (by kernel_rfl) (by kernel_rfl) (by kernel_rfl) (by decide) (by kernel_rfl) (by kernel_rfl)
theorem Rt {kp : Value → Prop} : Has ⟨Go.Proofs.Tryd.prog, kp⟩ Ge := Bq 39 Go.Proofs.Tryd.f39 (by kernel_rfl) (by kernel_rfl) (by kernel_rfl) (by decide) (by kernel_rfl) (by kernel_rfl)
theorem PZ {kp : Value → Prop} : Has ⟨Go.Proofs.Tryd.prog, kp⟩ FG := Bq 12 Go.Proofs.Tryd.f12 (by kernel_rfl) (by kernel_rfl) (by kernel_rfl) (by decide) (by kernel_rfl) (by kernel_rfl)
theorem Iu {kp : Value → Prop} : Has ⟨Go.Proofs.Tryd.prog, kp⟩ CT := Bq 4 Go.Proofs.Tryd.f4 (by kernel_rfl) (by kernel_rfl) (by kernel_rfl) (by decide) (by kernel_rfl) (by kernel_rfl)
end Go.VS
