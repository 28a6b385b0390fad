/- The program has these functions. -/
import Derived.Test.YtcaandgkdmidkaaKGf0
import Derived.Test.YtcaandgkdmidkaaKGf1
import Derived.Test.YtcaandgkdmidkaaProg
import Derived.KernelRfl
set_option linter.unusedVariables false
set_option linter.unusedSimpArgs false
namespace Go.VS
theorem TO {kp : Value → Prop} : Has ⟨Go.Proofs.Try.prog, kp⟩ Ig := Bt 14 Go.Proofs.Try.f14 (by kernel_rfl) (by kernel_rfl) (by kernel_rfl) (by decide) (by kernel_rfl) (by kernel_rfl)
theorem MS {kp : Value → Prop} : Has ⟨Go.Proofs.Try.prog, kp⟩ DZ := Bt 22 Go.Proofs.Try.f22 (by kernel_rfl) (by kernel_rfl) (by kernel_rfl) (by decide) (by kernel_rfl) (by kernel_rfl)
theorem Vr {kp : Value → Prop} : Has ⟨Go.Proofs.Try.prog, kp⟩ JC := Bt 15 Go.Proofs.Try.f15 (by kernel_rfl) (by kernel_rfl) (by kernel_rfl) (by decide) (by kernel_rfl) (by kernel_rfl)
theorem Pr {kp : Value → Prop} : Has ⟨Go.Proofs.Try.prog, kp⟩ Fb := Bt 31 Go.Proofs.Try.f31 (by kernel_rfl) (by kernel_rfl) (by kernel_rfl) (by decide) (by kernel_rfl) (by kernel_rfl)
theorem N4 {kp : Value → Prop} : Has ⟨Go.Proofs.Try.prog, kp⟩ EF := Bt 26 Go.Proofs.Try.f26 (by kernel_rfl) (by kernel_rfl) (by kernel_rfl) (by decide) (by kernel_rfl) (by kernel_rfl)
theorem MU {kp : Value → Prop} : Has ⟨Go.Proofs.Try.prog, kp⟩ D1 := Bt 36 Go.Proofs.Try.f36 (by kernel_rfl) (by kernel_rfl) (by kernel_rfl) (by decide) (by kernel_rfl) (by kernel_rfl)
theorem MR {kp : Value → Prop} : Has ⟨Go.Proofs.Try.prog, kp⟩ DY := Bt 11 Go.Proofs.Try.f11 (by kernel_rfl) (by kernel_rfl) (by kernel_rfl) (by decide) (by kernel_rfl) (by kernel_rfl)
theorem Ps {kp : Value → Prop} : Has ⟨Go.Proofs.Try.prog, kp⟩ Fc := Bt 29 Go.Proofs.Try.f29 (by kernel_rfl) (by kernel_rfl) (by kernel_rfl) (by decide) (by kernel_rfl) (by kernel_rfl)
theorem NZ {kp : Value → Prop} : Has ⟨Go.Proofs.Try.prog, kp⟩ EA := Bt 23 Go.Proofs.Try.f23 (by kernel_rfl) (by kernel_rfl) (by kernel_rfl) (by decide) (by kernel_rfl) (by kernel_rfl)
theorem N0 {kp : Value → Prop} : Has ⟨Go.Proofs.Try.prog, kp⟩ EB := Bt 13 Go.Proofs.Try.f13 (by kernel_rfl) (by kernel_rfl) (by kernel_rfl) (by decide) (by kernel_rfl) (by kernel_rfl)
end Go.VS
