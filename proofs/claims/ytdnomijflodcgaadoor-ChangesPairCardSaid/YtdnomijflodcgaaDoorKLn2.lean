/- The program has these functions. -/
import Derived.Test.YtdnomijflodcgaaDoorKGf0
import Derived.Test.YtdnomijflodcgaaDoorKGf1
import Derived.Test.YtdnomijflodcgaaDoorProg
import Derived.KernelRfl
set_option linter.unusedVariables false
set_option linter.unusedSimpArgs false
namespace Go.VS
theorem AdS {kp : Value → Prop} : Has ⟨Go.Proofs.Tryd.prog, kp⟩ AcD := Bq 34 Go.Proofs.Tryd.f34 (by kernel_rfl) (by kernel_rfl) (by kernel_rfl) (by decide) (by kernel_rfl) (by kernel_rfl)
theorem Rv {kp : Value → Prop} : Has ⟨Go.Proofs.Tryd.prog, kp⟩ Gg := Bq 37 Go.Proofs.Tryd.f37 (by kernel_rfl) (by kernel_rfl) (by kernel_rfl) (by decide) (by kernel_rfl) (by kernel_rfl)
theorem NG {kp : Value → Prop} : Has ⟨Go.Proofs.Tryd.prog, kp⟩ EF := Bq 38 Go.Proofs.Tryd.f38 (by kernel_rfl) (by kernel_rfl) (by kernel_rfl) (by decide) (by kernel_rfl) (by kernel_rfl)
theorem X9 {kp : Value → Prop} : Has ⟨Go.Proofs.Tryd.prog, kp⟩ Lm := Bq 62 Go.Proofs.Tryd.f62 (by kernel_rfl) (by kernel_rfl) (by kernel_rfl) (by decide) (by kernel_rfl) (by kernel_rfl)
theorem LH {kp : Value → Prop} : Has ⟨Go.Proofs.Tryd.prog, kp⟩ D9 := Bq 40 Go.Proofs.Tryd.f40 (by kernel_rfl) (by kernel_rfl) (by kernel_rfl) (by decide) (by kernel_rfl) (by kernel_rfl)
theorem Rt {kp : Value → Prop} : Has ⟨Go.Proofs.Tryd.prog, kp⟩ Ge := Bq 39 Go.Proofs.Tryd.f39 (by kernel_rfl) (by kernel_rfl) (by kernel_rfl) (by decide) (by kernel_rfl) (by kernel_rfl)
theorem I3 {kp : Value → Prop} : Has ⟨Go.Proofs.Tryd.prog, kp⟩ DV := Bq 14 Go.Proofs.Tryd.f14 (by kernel_rfl) (by kernel_rfl) (by kernel_rfl) (by decide) (by kernel_rfl) (by kernel_rfl)
theorem Js {kp : Value → Prop} : Has ⟨Go.Proofs.Tryd.prog, kp⟩ Ec := Bq 15 Go.Proofs.Tryd.f15 (by kernel_rfl) (by kernel_rfl) (by kernel_rfl) (by decide) (by kernel_rfl) (by kernel_rfl)
theorem PZ {kp : Value → Prop} : Has ⟨Go.Proofs.Tryd.prog, kp⟩ FG := Bq 12 Go.Proofs.Tryd.f12 (by kernel_rfl) (by kernel_rfl) (by kernel_rfl) (by decide) (by kernel_rfl) (by kernel_rfl)
theorem Ad1 {kp : Value → Prop} : Has ⟨Go.Proofs.Tryd.prog, kp⟩ AcK := Bq 29 Go.Proofs.Tryd.f29 (by kernel_rfl) (by kernel_rfl) (by kernel_rfl) (by decide) (by kernel_rfl) (by kernel_rfl)
theorem AdH {kp : Value → Prop} : Has ⟨Go.Proofs.Tryd.prog, kp⟩ AcA := Bq 35 Go.Proofs.Tryd.f35 (by kernel_rfl) (by kernel_rfl) (by kernel_rfl) (by decide) (by kernel_rfl) (by kernel_rfl)
theorem AdG {kp : Value → Prop} : Has ⟨Go.Proofs.Tryd.prog, kp⟩ Acz := Bq 36 Go.Proofs.Tryd.f36 (by kernel_rfl) (by kernel_rfl) (by kernel_rfl) (by decide) (by kernel_rfl) (by kernel_rfl)
theorem AdT {kp : Value → Prop} : Has ⟨Go.Proofs.Tryd.prog, kp⟩ AcE := Bq 11 Go.Proofs.Tryd.f11 (by kernel_rfl) (by kernel_rfl) (by kernel_rfl) (by decide) (by kernel_rfl) (by kernel_rfl)
theorem AcT {kp : Value → Prop} : Has ⟨Go.Proofs.Tryd.prog, kp⟩ Acq := Bq 3 Go.Proofs.Tryd.f3 (by kernel_rfl) (by kernel_rfl) (by kernel_rfl) (by decide) (by kernel_rfl) (by kernel_rfl)
end Go.VS
