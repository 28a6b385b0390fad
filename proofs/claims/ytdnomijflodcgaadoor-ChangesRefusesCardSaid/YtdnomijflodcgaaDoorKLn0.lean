/- The program has these functions. -/
import Derived.Test.YtdnomijflodcgaaDoorKGf0
import Derived.Test.YtdnomijflodcgaaDoorKGf1
import Derived.Test.YtdnomijflodcgaaDoorProg
import Derived.KernelRfl
set_option linter.unusedVariables false
set_option linter.unusedSimpArgs false
namespace Go.VS
theorem LJ {kp : Value → Prop} : Has ⟨Go.Proofs.Tryd.prog, kp⟩ Ea := Bq 64 Go.Proofs.Tryd.f64 (by kernel_rfl) (by kernel_rfl) (by kernel_rfl) (by decide) (by kernel_rfl) (by kernel_rfl)
theorem P1 {kp : Value → Prop} : Has ⟨Go.Proofs.Tryd.prog, kp⟩ FI := Bq 32 Go.Proofs.Tryd.f32 (by kernel_rfl) (by kernel_rfl) (by kernel_rfl) (by decide) (by kernel_rfl) (by kernel_rfl)
theorem Rx {kp : Value → Prop} : Has ⟨Go.Proofs.Tryd.prog, kp⟩ Gi := Bq 123 Go.Proofs.Tryd.f123 (by kernel_rfl) (by kernel_rfl) (by kernel_rfl) (by decide) (by kernel_rfl) (by kernel_rfl)
theorem Rw {kp : Value → Prop} : Has ⟨Go.Proofs.Tryd.prog, kp⟩ Gh := Bq 83 Go.Proofs.Tryd.f83 (by kernel_rfl) (by kernel_rfl) (by kernel_rfl) (by decide) (by kernel_rfl) (by kernel_rfl)
theorem OQ {kp : Value → Prop} : Has ⟨Go.Proofs.Tryd.prog, kp⟩ EX := Bq 134 Go.Proofs.Tryd.f134 (by kernel_rfl) (by kernel_rfl) (by kernel_rfl) (by decide) (by kernel_rfl) (by kernel_rfl)
theorem OR {kp : Value → Prop} : Has ⟨Go.Proofs.Tryd.prog, kp⟩ EY := Bq 137 Go.Proofs.Tryd.f137 (by kernel_rfl) (by kernel_rfl) (by kernel_rfl) (by decide) (by kernel_rfl) (by kernel_rfl)
theorem C9 {kp : Value → Prop} : Has ⟨Go.Proofs.Tryd.prog, kp⟩ AW := Bq 159 Go.Proofs.Tryd.f159 (by kernel_rfl) (by kernel_rfl) (by kernel_rfl) (by decide) (by kernel_rfl) (by kernel_rfl)
theorem Da {kp : Value → Prop} : Has ⟨Go.Proofs.Tryd.prog, kp⟩ AX := Bq 159 Go.Proofs.Tryd.f159 (by kernel_rfl) (by kernel_rfl) (by kernel_rfl) (by decide) (by kernel_rfl) (by kernel_rfl)
theorem CQ {kp : Value → Prop} : Has ⟨Go.Proofs.Tryd.prog, kp⟩ AP := Bq 133 Go.Proofs.Tryd.f133 (by kernel_rfl) (by kernel_rfl) (by kernel_rfl) (by decide) (by kernel_rfl) (by kernel_rfl)
theorem CR {kp : Value → Prop} : Has ⟨Go.Proofs.Tryd.prog, kp⟩ AQ := Bq 133 Go.Proofs.Tryd.f133 (by kernel_rfl) (by kernel_rfl) (by kernel_rfl) (by decide) (by kernel_rfl) (by kernel_rfl)
theorem LK {kp : Value → Prop} : Has ⟨Go.Proofs.Tryd.prog, kp⟩ EW := Bq 94 Go.Proofs.Tryd.f94 (by kernel_rfl) (by kernel_rfl) (by kernel_rfl) (by decide) (by kernel_rfl) (by kernel_rfl)
theorem P4 {kp : Value → Prop} : Has ⟨Go.Proofs.Tryd.prog, kp⟩ FL := Bq 22 Go.Proofs.Tryd.f22 (by kernel_rfl) (by kernel_rfl) (by kernel_rfl) (by decide) (by kernel_rfl) (by kernel_rfl)
theorem P2 {kp : Value → Prop} : Has ⟨Go.Proofs.Tryd.prog, kp⟩ FJ := Bq 65 Go.Proofs.Tryd.f65 (by kernel_rfl) (by kernel_rfl) (by kernel_rfl) (by decide) (by kernel_rfl) (by kernel_rfl)
theorem P0 {kp : Value → Prop} : Has ⟨Go.Proofs.Tryd.prog, kp⟩ FH := Bq 66 Go.Proofs.Tryd.f66 (by kernel_rfl) (by kernel_rfl) (by kernel_rfl) (by decide) (by kernel_rfl) (by kernel_rfl)
end Go.VS
