/- The program has these functions. -/
import Derived.Test.YtdnomijflodcgaaDoorKGf0
import Derived.Test.YtdnomijflodcgaaDoorKGf1
import Derived.Test.YtdnomijflodcgaaDoorProg
import Derived.KernelRfl
set_option linter.unusedVariables false
set_option linter.unusedSimpArgs false
namespace Go.VS
theorem Aed {kp : Value → Prop} : Has ⟨Go.Proofs.Tryd.prog, kp⟩ AcS := Bq 13 Go.Proofs.Tryd.f13 (by kernel_rfl) (by kernel_rfl) (by kernel_rfl) (by decide) (by kernel_rfl) (by kernel_rfl)
theorem Aew {kp : Value → Prop} : Has ⟨Go.Proofs.Tryd.prog, kp⟩ AcZ := Bq 33 Go.Proofs.Tryd.f33 (by kernel_rfl) (by kernel_rfl) (by kernel_rfl) (by decide) (by kernel_rfl) (by kernel_rfl)
theorem P1 {kp : Value → Prop} : Has ⟨Go.Proofs.Tryd.prog, kp⟩ FI := Bq 32 Go.Proofs.Tryd.f32 (by kernel_rfl) (by kernel_rfl) (by kernel_rfl) (by decide) (by kernel_rfl) (by kernel_rfl)
theorem Rx {kp : Value → Prop} : Has ⟨Go.Proofs.Tryd.prog, kp⟩ Gi := Bq 123 Go.Proofs.Tryd.f123 (by kernel_rfl) (by kernel_rfl) (by kernel_rfl) (by decide) (by kernel_rfl) (by kernel_rfl)
theorem Rw {kp : Value → Prop} : Has ⟨Go.Proofs.Tryd.prog, kp⟩ Gh := Bq 83 Go.Proofs.Tryd.f83 (by kernel_rfl) (by kernel_rfl) (by kernel_rfl) (by decide) (by kernel_rfl) (by kernel_rfl)
theorem OQ {kp : Value → Prop} : Has ⟨Go.Proofs.Tryd.prog, kp⟩ EX := Bq 134 Go.Proofs.Tryd.f134 (by kernel_rfl) (by kernel_rfl) (by kernel_rfl) (by decide) (by kernel_rfl) (by kernel_rfl)
theorem OR {kp : Value → Prop} : Has ⟨Go.Proofs.Tryd.prog, kp⟩ EY := Bq 137 Go.Proofs.Tryd.f137 (by kernel_rfl) (by kernel_rfl) (by kernel_rfl) (by decide) (by kernel_rfl) (by kernel_rfl)
theorem C9 {kp : Value → Prop} : Has ⟨Go.Proofs.Tryd.prog, kp⟩ AW := Bq 159 Go.Proofs.Tryd.f159 (by kernel_rfl) (by kernel_rfl) (by kernel_rfl) (by decide) (by kernel_rfl) (by kernel_rfl)
theorem Da {kp : Value → Prop} : Has ⟨Go.Proofs.Tryd.prog, kp⟩ AX := Bq 159 Go.Proofs.Tryd.f159 (by kernel_rfl) (by kernel_rfl) (by kernel_rfl) (by decide) (by kernel_rfl) (by kernel_rfl)
theorem CQ {kp : Value → Prop} : Has ⟨Go.Proofs.Tryd.prog, kp⟩ AP := Bq 133 Go.Proofs.Tryd.f133 (by kernel_rfl) (by kernel_rfl) (by kernel_rfl) (by decide) (by kernel_rfl) (by kernel_rfl)
theorem CR {kp : Value → Prop} : Has ⟨Go.Proofs.Tryd.prog, kp⟩ AQ := Bq 133 Go.Proofs.Tryd.f133 (by kernel_rfl) (by kernel_rfl) (by kernel_rfl) (by decide) (by kernel_rfl) (by kernel_rfl)
theorem LK {kp : Value → Prop} : Has ⟨Go.Proofs.Tryd.prog, kp⟩ EW := Bq 94 Go.Proofs.Tryd.f94 (by kernel_rfl) (by kernel_rfl) (by kernel_rfl) (by decide) (by kernel_rfl) (by kernel_rfl)
theorem SY {kp : Value → Prop} : Has ⟨Go.Proofs.Tryd.prog, kp⟩ Hn := Bq 41 Go.Proofs.Tryd.f41 (by kernel_rfl) (by kernel_rfl) (by kernel_rfl) (by decide) (by kernel_rfl) (by kernel_rfl)
theorem SZ {kp : Value → Prop} : Has ⟨Go.Proofs.Tryd.prog, kp⟩ Ho := Bq 95 Go.Proofs.Tryd.f95 (by kernel_rfl) (by kernel_rfl) (by kernel_rfl) (by decide) (by kernel_rfl) (by kernel_rfl)
end Go.VS
