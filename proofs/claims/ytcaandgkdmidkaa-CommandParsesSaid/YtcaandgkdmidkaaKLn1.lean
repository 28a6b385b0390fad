/- The program has these functions. -/
import Derived.Test.YtcaandgkdmidkaaKGf0
import Derived.Test.YtcaandgkdmidkaaKGf1
import Derived.Test.YtcaandgkdmidkaaProg
import Derived.KernelRfl
set_option linter.unusedVariables false
set_option linter.unusedSimpArgs false
namespace Go.VS
theorem IK {kp : Value → Prop} : Has ⟨Go.Proofs.Try.prog, kp⟩ Ct := Bt 38 Go.Proofs.Try.f38 (by kernel_rfl) (by kernel_rfl) (by kernel_rfl) (by decide) (by kernel_rfl) (by kernel_rfl)
theorem HO {kp : Value → Prop} : Has ⟨Go.Proofs.Try.prog, kp⟩ Cg := Bt 33 Go.Proofs.Try.f33 (by kernel_rfl) (by kernel_rfl) (by kernel_rfl) (by decide) (by kernel_rfl) (by kernel_rfl)
theorem HP {kp : Value → Prop} : Has ⟨Go.Proofs.Try.prog, kp⟩ Ci := Bt 28 Go.Proofs.Try.f28 (by kernel_rfl) (by kernel_rfl) (by kernel_rfl) (by decide) (by kernel_rfl) (by kernel_rfl)
theorem Jh {kp : Value → Prop} : Has ⟨Go.Proofs.Try.prog, kp⟩ CF := Bt 24 Go.Proofs.Try.f24 (by kernel_rfl) (by kernel_rfl) (by kernel_rfl) (by decide) (by kernel_rfl) (by kernel_rfl)
theorem Pq {kp : Value → Prop} : Has ⟨Go.Proofs.Try.prog, kp⟩ Fa := Bt 17 Go.Proofs.Try.f17 (by kernel_rfl) (by kernel_rfl) (by kernel_rfl) (by decide) (by kernel_rfl) (by kernel_rfl)
theorem N2 {kp : Value → Prop} : Has ⟨Go.Proofs.Try.prog, kp⟩ ED := Bt 32 Go.Proofs.Try.f32 (by kernel_rfl) (by kernel_rfl) (by kernel_rfl) (by decide) (by kernel_rfl) (by kernel_rfl)
theorem LR {kp : Value → Prop} : Has ⟨Go.Proofs.Try.prog, kp⟩ DG := Bt 27 Go.Proofs.Try.f27 (by kernel_rfl) (by kernel_rfl) (by kernel_rfl) (by decide) (by kernel_rfl) (by kernel_rfl)
theorem N1 {kp : Value → Prop} : Has ⟨Go.Proofs.Try.prog, kp⟩ EC := Bt 20 Go.Proofs.Try.f20 (by kernel_rfl) (by kernel_rfl) (by kernel_rfl) (by decide) (by kernel_rfl) (by kernel_rfl)
theorem LQ {kp : Value → Prop} : Has ⟨Go.Proofs.Try.prog, kp⟩ DF := Bt 18 Go.Proofs.Try.f18 (by kernel_rfl) (by kernel_rfl) (by kernel_rfl) (by decide) (by kernel_rfl) (by kernel_rfl)
theorem LP {kp : Value → Prop} : Has ⟨Go.Proofs.Try.prog, kp⟩ DE := Bt 8 Go.Proofs.Try.f8 (by kernel_rfl) (by kernel_rfl) (by kernel_rfl) (by decide) (by kernel_rfl) (by kernel_rfl)
end Go.VS
